/- A part of the proofs of this seat: Q19o SLa SLb SLc SLd SBG19M SLe SLf Q19k Q19m T19a Q19w Q19v SEa SEb SEc SEd SEe SEf Q19u SIa SIb SIc SId SIe SIf Q19y Q19q Q19t. -/
import Derived.Test.YtacapnnkndaonaaGreatP8c477c5d64
set_option linter.unusedVariables false
set_option linter.unusedSimpArgs false
set_option linter.unusedSectionVars false
section
namespace Go.Pev.Pl
open Tok
def lows (n : Int) (xs : List Int) : List Int := xs.filter fun t => !decide (n ≤ t)
noncomputable def askE (n : Int) (rings : List (List Int)) (ok : Bool) : Int := if RF n rings then if ok then 0 else 10 else 1
theorem cont_there (n : Int) (rings : List (List Int)) (xs : List Int) (hs : xs.length < 9223372036854775808) : contFuncI_there (xs, n, rings, ()) = some (n, rings, xs.any (fun x => decide (x < 0) || decide (n ≤ x)), ()) := by
  rw [contFuncI_there_eq, contFuncI_there_d, idxFuncI_there_eq, idxFuncI_there_d]
  have e := findL (step := idxFuncI_there_s0) (fun i => (n, rings, xs, dlen xs, (i : Int), ())) xs (fun x => decide (x < 0) || decide (n ≤ x)) (fun i => .inl (n, rings, (i : Int), ())) (.inr (.inl (n, rings, ()))) hs
    (fun i x hi hx => by
      rw [idxFuncI_there_s0, dlen_l, ilt_nat, decide_eq_true hi]
      simp only [idx_some hx, ilt_eq, ile_eq]
      rw [wrap_add1 (by omega)]
      by_cases h : x < 0
      · simp [h]
      · by_cases h2 : n ≤ x
        · simp [h, h2]
        · simp [h, h2])
    (by rw [idxFuncI_there_s0, dlen_l, ilt_nat, decide_eq_false (by omega)])
  have e' : iterL idxFuncI_there_s0 many (n, rings, xs, dlen xs, (0 : Int), ()) = _ := e
  rw [e']
  generalize (xs.any fun x => decide (x < 0) || decide (n ≤ x)) = b
  cases b <;> simp [ile_eq]
theorem In_not {n v : Int} (hS : Sz n) : (decide (v < 0) || decide (n ≤ v)) = !decide (In n v) := by
  by_cases h : In n v
  · obtain ⟨_, _, h3, h4⟩ := h
    simp [In, hS.1, hS.2, h3, h4]
  · have : v < 0 ∨ n ≤ v := by
      refine Classical.byContradiction fun hc => h ⟨hS.1, hS.2, by omega, by omega⟩
    rcases this with g | g <;> simp [h, g]
theorem fthere_val (n : Int) (rings : List (List Int)) (xs : List Int) (hD : Dom rings) (hs : xs.length < 9223372036854775808) : fthere ((n, (rings, ())), xs, ()) = some (askE n rings (xs.all fun v => decide (In n v)), ()) := by
  rw [fthere_eq, fthere_d]
  simp only [tright_val n rings hD.1 hD.2, cont_there n rings xs hs, askE]
  by_cases h : RF n rings
  · have hb : (xs.any fun x => decide (x < 0) || decide (n ≤ x)) = !(xs.all fun v => decide (In n v)) := by
      rw [List.not_all_eq_any_not]
      congr 1
      funext x
      exact In_not h.1
    simp only [h, decide_true, Bool.not_true, hb, if_true]
    cases xs.all fun v => decide (In n v) <;> rfl
  · simp [h]
def verts (n : Int) (A : List Int) : List Int := ((List.range n.toNat).map fun (k : Nat) => (k : Int)).filter fun v => decide (v ∈ A)
theorem verts_mem {n : Int} {A : List Int} (v : Int) : v ∈ verts n A ↔ 0 ≤ v ∧ v < n ∧ v ∈ A := by
  rw [verts, List.mem_filter, List.mem_map, decide_eq_true_eq]
  constructor
  · rintro ⟨⟨k, hk, rfl⟩, h⟩
    rw [List.mem_range] at hk
    exact ⟨by omega, by omega, h⟩
  · rintro ⟨h1, h2, h3⟩
    exact ⟨⟨v.toNat, by rw [List.mem_range]; omega, by omega⟩, h3⟩
theorem verts_up (n : Int) (A : List Int) : (verts n A).Pairwise (· < ·) := by
  rw [verts]
  refine List.Pairwise.filter _ ?_
  rw [List.pairwise_map]
  exact List.pairwise_lt_range.imp fun h => by omega
theorem lows_perm {n : Int} {A : List Int} (h : RG n A) : (lows n A).Perm (verts n A) := by
  have hl : (lows n A).Nodup := h.1.2.2.filter _
  have hv : (verts n A).Nodup := (verts_up n A).imp fun h => by omega
  exact (List.perm_ext_iff_of_nodup hl hv).2 fun v => by
    rw [verts_mem, lows, List.mem_filter]
    simp only [Bool.not_eq_true', decide_eq_false_iff_not]
    constructor
    · rintro ⟨h1, h2⟩
      have := (h.1.2.1 v h1).1
      exact ⟨this, by omega, h1⟩
    · rintro ⟨h1, h2, h3⟩
      exact ⟨h3, by omega⟩
theorem lows_len {n : Int} {A : List Int} (h : RG n A) : A.length + 2 = 3 * (verts n A).length := by
  rw [← (lows_perm h).length_eq]
  obtain ⟨L, q1, q2, q3⟩ := h.2.2.2
  have hv : lows n A = vers L := by
    rw [q1]
    clear q1 q3
    induction L with
    | nil => rfl
    | cons t L ih =>
      have h1 := ih fun t ht => q2 t (List.mem_cons_of_mem _ ht)
      have h2 := q2 t (by simp)
      rw [lows] at h1 ⊢
      cases t with
      | ver v =>
        have : ¬ n ≤ v := by have := h2.2.2.2; omega
        rw [List.map_cons, List.filter_cons_of_pos (by simp only [encT]; simp [this]), h1, vers]
        rfl
      | arc u v =>
        have := (enc_arc h2.1 h2.2.1).1
        rw [List.map_cons, List.filter_cons_of_neg (by simp only [encT]; simp [this]), h1, vers]
  rw [hv, q1, List.length_map]
  exact q3.len
end Go.Pev.Pl
end
section
namespace Go.Pev.Pl.SL
open Go.Sort
def ok (l : List Int) : Prop := l ≠ []
def okz : List Int := [0]
theorem okz_ok : ok okz := by simp [ok, okz]
def lt (x y : List Int) : Bool := ltInt (x.headD 0) (y.headD 0)
theorem swo : SWO lt := ⟨fun x => swo_ltInt.irrefl _, fun x y z => swo_ltInt.trans _ _ _, fun x y z => swo_ltInt.ntrans _ _ _⟩
theorem cmp_ok {x y : List Int} (hx : ok x) (hy : ok y) : ∃ c, with1 (x, y, ()) = some (c, ()) ∧ ilt c (0 : Int) = lt x y := by
  cases x with
  | nil => exact absurd rfl hx
  | cons a x =>
    cases y with
    | nil => exact absurd rfl hy
    | cons b y =>
      rw [with1_eq, with1_d]
      have i1 : idx (a :: x) (0 : Int) = some a := by rw [idx_eq]; rfl
      have i2 : idx (b :: y) (0 : Int) = some b := by rw [idx_eq]; rfl
      simp only [i1, i2, compareI_eq, compareI_d, nanI_eq, nanI_d]
      simp only [ieq_eq, ilt_eq, lt, List.headD_cons, ltInt]
      by_cases h : a < b
      · simp [h]
      · by_cases h2 : b < a
        · simp [h, h2]
        · simp [h, h2]
abbrev EL := {x : List Int // ok x}
instance : Inhabited EL := ⟨⟨okz, okz_ok⟩⟩
def rep (d : Array EL) : List (List Int) := d.toList.map Subtype.val
theorem idx_at {d : Array EL} {n : Nat} (h : n < d.size) : idx (rep d) (n : Int) = some (d[n]!).val := by
  rw [idx_eq, idxR, if_neg (by omega)]
  simp [rep, h]
theorem dget_at {d : Array EL} {n : Nat} {z : List Int} (h : n < d.size) : dget (rep d) (dnat (n : Int)) z = (d[n]!).val := by
  simp [dget, dnat, rep, h]
theorem dset_at {d : Array EL} {n : Nat} {x : EL} : dset (rep d) (dnat (n : Int)) x.val = rep (d.setIfInBounds n x) := by
  simp [dset, dnat, rep, List.map_set]
theorem dlen_at {d : Array EL} : dlen (rep d) = (d.size : Int) := by simp [dlen, rep]
def ltX (x y : EL) : Bool := lt x.val y.val
theorem swoX : SWO ltX := ⟨fun x => swo.irrefl x.val, fun x y z => swo.trans x.val y.val z.val, fun x y z => swo.ntrans x.val y.val z.val⟩
noncomputable def cmpX (x y : EL) : Int := match with1 (x.val, y.val, ()) with
  | some (c, _) => c
  | none => 0
theorem less_val (x y : EL) : with1 (x.val, y.val, ()) = some (cmpX x y, ()) := by
  obtain ⟨c, e, _⟩ := cmp_ok x.property y.property
  rw [cmpX, e]
theorem less_lt (x y : EL) : ilt (cmpX x y) (0 : Int) = ltX x y := by
  obtain ⟨c, e, h⟩ := cmp_ok x.property y.property
  rw [cmpX, e]
  exact h
theorem insL_in (a b i : Nat) : ∀ (j : Nat) (d : Array EL) (n : Nat), j < d.size → d.size < 4611686018427387904 → j < n →
    iterO insL_s1 n ((rep d), (a : Int), (b : Int), (i : Int), (j : Int), ()) = some (.inl ((rep (insInner ltX a j d)), (a : Int), (b : Int), (i : Int), ())) := by
  intro j
  induction j with
  | zero =>
    intro d n hj hs hn
    obtain ⟨n, rfl⟩ : ∃ k, n = k + 1 := ⟨n - 1, by omega⟩
    have h0 : ilt (a : Int) ((0 : Nat) : Int) = false := by rw [ilt_nat]; simp
    simp only [iterO, insL_s1, h0, insInner]
  | succ j ih =>
    intro d n hj hs hn
    obtain ⟨n, rfl⟩ : ∃ k, n = k + 1 := ⟨n - 1, by omega⟩
    have e1 : IntKind.wrap .i64 (((j + 1 : Nat) : Int) - 1) = (j : Int) := by rw [wrap_in (by omega)]; omega
    have hj' : j < d.size := by omega
    simp only [iterO, insL_s1, ilt_nat, e1, idx_at hj, idx_at hj', dget_at hj, dget_at hj', less_val, less_lt, insInner, gt_iff_lt]
    by_cases h1 : a < j + 1
    · cases h2 : ltX d[j + 1]! d[j]!
      · simp only [h1, decide_true, h2, Bool.and_false, Bool.false_eq_true, if_false]
      · simp only [h1, decide_true, h2, Bool.and_true, if_true, dset_at]
        rw [idx_at (by simpa using hj')]
        simp only [swp_fold]
        exact ih (swp d (j + 1) j) n (by rw [size_swp]; omega) (by rw [size_swp]; omega) (by omega)
    · simp only [h1, decide_false, Bool.false_and, Bool.false_eq_true, if_false]
theorem size_insInner (lt : EL → EL → Bool) (a j : Nat) (d : Array EL) : (insInner lt a j d).size = d.size := by
  induction j generalizing d with
  | zero => rfl
  | succ j ih =>
    rw [insInner]
    split
    · rw [ih, size_swp]
    · rfl
theorem insL_out (a b : Nat) : ∀ (k i : Nat) (d : Array EL) (n : Nat), b - i = k → b ≤ d.size → d.size < 4611686018427387904 → d.size < many → k < n →
    iterO insL_s0 n ((rep d), (a : Int), (b : Int), (i : Int), ()) = some (.inl ((rep (insOuter ltX a b i d)), ())) := by
  intro k
  induction k with
  | zero =>
    intro i d n hk hb hs hm hn
    obtain ⟨n, rfl⟩ : ∃ k, n = k + 1 := ⟨n - 1, by omega⟩
    have h0 : ¬ i < b := by omega
    rw [insOuter]
    simp only [iterO, insL_s0, ilt_nat, h0, decide_false, if_false]
  | succ k ih =>
    intro i d n hk hb hs hm hn
    obtain ⟨n, rfl⟩ : ∃ k, n = k + 1 := ⟨n - 1, by omega⟩
    have h0 : i < b := by omega
    have e1 : IntKind.wrap .i64 ((i : Int) + 1) = ((i + 1 : Nat) : Int) := by rw [wrap_in (by omega)]; omega
    rw [insOuter]
    simp only [iterO, insL_s0, ilt_nat, h0, decide_true, if_true, iterL_eq]
    rw [insL_in a b i i d many (by omega) hs (by omega)]
    simp only [e1]
    exact ih (i + 1) _ n (by omega) (by rw [size_insInner]; omega) (by rw [size_insInner]; omega) (by rw [size_insInner]; omega) (by omega)
theorem insL_val (d : Array EL) (a b : Nat) (hab : a ≤ b) (hb : b ≤ d.size) (hs : d.size < 4294967296) : insL ((rep d), (a : Int), (b : Int), ()) = some ((rep (insertionSort ltX d a b)), ()) := by
  have hm : d.size < many := by simp only [many]; omega
  have e1 : IntKind.wrap .i64 ((a : Int) + 1) = ((a + 1 : Nat) : Int) := by rw [wrap_in (by omega)]; omega
  rw [insL_eq, insL_d]
  simp only [e1, iterL_eq]
  rw [insL_out a b (b - (a + 1)) (a + 1) d many rfl hb (by omega) hm (by omega)]
  rfl
end Go.Pev.Pl.SL
end
section
namespace Go.Pev.Pl.SL
open Go.Sort
theorem siftL_loop (hi first : Nat) : ∀ (k root : Nat) (d : Array EL) (n : Nat), hi - root = k → root ≤ hi → first + hi ≤ d.size → d.size < 4294967296 → (hi = 0 ∨ root < hi) → k < n →
    iterO siftL_s0 n ((rep d), (hi : Int), (first : Int), (root : Int), ()) = some (.inl ((rep (siftDown ltX hi first root d)), ())) ∨
    iterO siftL_s0 n ((rep d), (hi : Int), (first : Int), (root : Int), ()) = some (.inr (.inl ((rep (siftDown ltX hi first root d)), ()))) := by
  intro k
  induction k using Nat.strongRecOn with
  | _ k ih =>
  intro root d n hk hr hf hs hz hn
  obtain ⟨n, rfl⟩ : ∃ k, n = k + 1 := ⟨n - 1, by omega⟩
  rw [siftDown]
  simp (disch := omega) only [iterO, siftL_s0, wrap_2mul, wrap_add1, wrap_add, ile_nat, ilt_nat]
  by_cases h1 : hi ≤ 2 * root + 1
  · simp only [h1, decide_true, ge_iff_le, dite_true, true_or]
  · have i0 : first + root < d.size := by omega
    have i1 : first + (2 * root + 1) < d.size := by omega
    simp only [h1, decide_false, ge_iff_le, if_false, dite_false]
    simp (disch := omega) only [idx_at, dget_at, less_val, less_lt]
    by_cases h2 : 2 * root + 1 + 1 < hi
    · have i2 : first + (2 * root + 2) < d.size := by omega
      have i3 : 2 * root + 1 + 1 = 2 * root + 2 := by omega
      have i4 : first + (2 * root + 1) + 1 = first + (2 * root + 2) := by omega
      have h3 : 2 * root + 2 < hi := by omega
      simp only [i3, i4, h3, decide_true]
      simp (disch := omega) only [idx_at, dget_at, less_val, less_lt, dset_at]
      cases h4 : ltX d[first + (2 * root + 1)]! d[first + (2 * root + 2)]!
      · simp only [Bool.and_false, Bool.false_eq_true, if_false]
        cases h5 : ltX d[first + root]! d[first + (2 * root + 1)]!
        · simp
        · simp only [Bool.not_true, Bool.false_eq_true, if_false]
          rw [idx_at (by simpa using i1)]
          simp only [swp_fold]
          exact ih (hi - (2 * root + 1)) (by omega) (2 * root + 1) _ n rfl (by omega) (by rw [size_swp]; omega) (by rw [size_swp]; omega) (by omega) (by omega)
      · simp only [Bool.and_true, if_true]
        cases h5 : ltX d[first + root]! d[first + (2 * root + 2)]!
        · simp
        · simp only [Bool.not_true, Bool.false_eq_true, if_false, dite_true]
          rw [idx_at (by simpa using i2)]
          simp only [swp_fold]
          exact ih (hi - (2 * root + 2)) (by omega) (2 * root + 2) _ n rfl (by omega) (by rw [size_swp]; omega) (by rw [size_swp]; omega) (by omega) (by omega)
    · simp only [h2, decide_false, Bool.false_and, Bool.false_eq_true, if_false, dset_at]
      cases h5 : ltX d[first + root]! d[first + (2 * root + 1)]!
      · simp
      · simp only [Bool.not_true, Bool.false_eq_true, if_false]
        rw [idx_at (by simpa using i1)]
        simp only [swp_fold]
        exact ih (hi - (2 * root + 1)) (by omega) (2 * root + 1) _ n rfl (by omega) (by rw [size_swp]; omega) (by rw [size_swp]; omega) (by omega) (by omega)
theorem siftL_val (d : Array EL) (root hi first : Nat) (hf : first + hi ≤ d.size) (hs : d.size < 4294967296) (hz : hi = 0 ∧ root = 0 ∨ root < hi) : siftL ((rep d), (root : Int), (hi : Int), (first : Int), ()) = some ((rep (siftDown ltX hi first root d)), ()) := by
  have hm : d.size < many := by simp only [many]; omega
  rw [siftL_eq, siftL_d]
  simp only [iterL_eq]
  rcases siftL_loop hi first (hi - root) root d many rfl (by omega) hf hs (by omega) (by omega) with h | h <;> rw [h]
theorem size_siftDown (lt : EL → EL → Bool) (hi first : Nat) : ∀ (k root : Nat) (d : Array EL), hi - root = k → (siftDown lt hi first root d).size = d.size := by
  intro k
  induction k using Nat.strongRecOn with
  | _ k ih =>
  intro root d hk
  rw [siftDown]
  split
  · rfl
  · split
    · split
      · rfl
      · split
        · rw [ih (hi - (2 * root + 2)) (by omega) _ _ rfl, size_swp]
        · rfl
    · split
      · rfl
      · rw [ih (hi - (2 * root + 1)) (by omega) _ _ rfl, size_swp]
theorem heapL_build (hi first : Nat) : ∀ (k : Nat) (d : Array EL) (n : Nat), (hi = 0 ∧ k ≤ 1 ∨ k ≤ hi) → first + hi ≤ d.size → d.size < 4294967296 → k < n →
    iterO heapL_s0 n ((rep d), (first : Int), (0 : Int), (hi : Int), (k : Int) - 1, ()) = some (.inl ((rep (heapBuild ltX hi first k d)), (first : Int), (0 : Int), (hi : Int), ())) := by
  intro k
  induction k with
  | zero =>
    intro d n hk hf hs hn
    obtain ⟨n, rfl⟩ : ∃ k, n = k + 1 := ⟨n - 1, by omega⟩
    rw [iterO, heapL_s0, ile_eq, decide_eq_false (by omega)]
    rfl
  | succ k ih =>
    intro d n hk hf hs hn
    obtain ⟨n, rfl⟩ : ∃ k, n = k + 1 := ⟨n - 1, by omega⟩
    have e0 : ((k + 1 : Nat) : Int) - 1 = (k : Int) := by omega
    rw [iterO, heapL_s0, e0, ile_eq, decide_eq_true (by omega)]
    simp only [siftL_val d k hi first hf hs (by omega)]
    rw [wrap_in (by omega)]
    exact ih _ n (by omega) (by rw [size_siftDown _ _ _ _ _ _ rfl]; omega) (by rw [size_siftDown _ _ _ _ _ _ rfl]; omega) (by omega)
theorem size_heapBuild (lt : EL → EL → Bool) (hi first : Nat) : ∀ (k : Nat) (d : Array EL), (heapBuild lt hi first k d).size = d.size := by
  intro k
  induction k with
  | zero => intro d; rfl
  | succ k ih => intro d; rw [heapBuild, ih, size_siftDown _ _ _ _ _ _ rfl]
theorem heapL_pop (first : Nat) : ∀ (k : Nat) (d : Array EL) (n : Nat), first + k ≤ d.size → d.size < 4294967296 → k < n →
    iterO heapL_s1 n ((rep d), (first : Int), (0 : Int), (k : Int) - 1, ()) = some (.inl ((rep (heapPop ltX first k d)), ())) := by
  intro k
  induction k with
  | zero =>
    intro d n hf hs hn
    obtain ⟨n, rfl⟩ : ∃ k, n = k + 1 := ⟨n - 1, by omega⟩
    rw [iterO, heapL_s1, ile_eq, decide_eq_false (by omega)]
    rfl
  | succ k ih =>
    intro d n hf hs hn
    obtain ⟨n, rfl⟩ : ∃ k, n = k + 1 := ⟨n - 1, by omega⟩
    have e0 : ((k + 1 : Nat) : Int) - 1 = (k : Int) := by omega
    have i0 : first < d.size := by omega
    have i1 : first + k < d.size := by omega
    rw [iterO, heapL_s1, e0, ile_eq, decide_eq_true (by omega)]
    simp (disch := omega) only [wrap_add, idx_at, dget_at, dset_at]
    rw [idx_at (by simpa using i1)]
    simp only [swp_fold]
    have := siftL_val (swp d first (first + k)) 0 k first (by rw [size_swp]; omega) (by rw [size_swp]; omega) (by omega)
    simp only [Int.natCast_zero] at this
    simp only [this]
    rw [wrap_in (by omega)]
    exact ih _ n (by rw [size_siftDown _ _ _ _ _ _ rfl, size_swp]; omega) (by rw [size_siftDown _ _ _ _ _ _ rfl, size_swp]; omega) (by omega)
theorem heapL_val (d : Array EL) (a b : Nat) (hab : a < b) (hb : b ≤ d.size) (hs : d.size < 4294967296) : heapL ((rep d), (a : Int), (b : Int), ()) = some ((rep (heapSort ltX d a b)), ()) := by
  have hm : 4294967296 < many := by simp only [many]; omega
  rw [heapL_eq, heapL_d]
  simp (disch := omega) only [wrap_sub, wrap_sub1, quo_2, iterL_eq]
  have e : (((b - a - 1) / 2 : Nat) : Int) = (((b - a - 1) / 2 + 1 : Nat) : Int) - 1 := by omega
  rw [e, heapL_build (b - a) a _ d many (by omega) (by omega) hs (by omega)]
  have e2 : (((b - a - 1 : Nat)) : Int) = ((b - a : Nat) : Int) - 1 := by omega
  simp (disch := omega) only [wrap_sub1, e2]
  rw [heapL_pop a (b - a) _ many (by rw [size_heapBuild]; omega) (by rw [size_heapBuild]; omega) (by omega)]
  rfl
end Go.Pev.Pl.SL
end
section
namespace Go.Pev.Pl.SL
open Go.Sort
theorem revL_loop : ∀ (k i j : Nat) (d : Array EL) (n : Nat), j - i = k → (j < d.size) → d.size < 4294967296 → k < n →
    iterO revL_s0 n ((rep d), (i : Int), (j : Int), ()) = some (.inl ((rep (reverseLoop i j d)), ())) := by
  intro k
  induction k using Nat.strongRecOn with
  | _ k ih =>
  intro i j d n hk hj hs hn
  obtain ⟨n, rfl⟩ : ∃ k, n = k + 1 := ⟨n - 1, by omega⟩
  rw [reverseLoop, iterO, revL_s0]
  simp only [ilt_nat]
  by_cases h : i < j
  · have hi : i < d.size := by omega
    simp only [h, decide_true, if_true, idx_at hj, idx_at hi, dget_at hi, dget_at hj, dset_at]
    rw [idx_at (by simpa using hj)]
    simp (disch := omega) only [swp_fold, wrap_add1, wrap_sub1]
    exact ih (j - 1 - (i + 1)) (by omega) (i + 1) (j - 1) _ n rfl (by rw [size_swp]; omega) (by rw [size_swp]; omega) (by omega)
  · simp only [h, decide_false, if_false]
theorem revL_val (d : Array EL) (a b : Nat) (hab : a < b) (hb : b ≤ d.size) (hs : d.size < 4294967296) : revL ((rep d), (a : Int), (b : Int), ()) = some ((rep (reverseRange d a b)), ()) := by
  have hm : 4294967296 < many := by simp only [many]; omega
  rw [revL_eq, revL_d]
  simp (disch := omega) only [wrap_sub1, iterL_eq]
  rw [revL_loop (b - 1 - a) a (b - 1) d many rfl (by omega) hs (by omega)]
  rfl
theorem swapL {d : Array EL} {i j : Nat} (hi : i < d.size) (hj : j < d.size) : idx (dset (rep d) (dnat (i : Int)) (dget (rep d) (dnat (j : Int)) ([] : List Int))) (j : Int) = some ((d.setIfInBounds i d[j]!)[j]!).val ∧
    dset (dset (rep d) (dnat (i : Int)) (dget (rep d) (dnat (j : Int)) ([] : List Int))) (dnat (j : Int)) (dget (rep d) (dnat (i : Int)) ([] : List Int)) = (rep (swp d i j)) := by
  rw [dget_at hi, dget_at hj, dset_at, dset_at]
  exact ⟨idx_at (by simpa using hj), rfl⟩
theorem scanUpL (step : List (List Int) × Int × Int × Int × Unit → Option ((List (List Int) × Int × Int × Int × Unit) ⊕ (List (List Int) × Int × Int × Int × Unit) ⊕ Unit)) (p : EL → Bool) (d : Array EL) (a j : Nat) (hs : d.size < 4294967296) (hj : j < d.size)
    (h : ∀ i : Nat, i ≤ d.size → step ((rep d), (a : Int), (i : Int), (j : Int), ()) = if i ≤ j ∧ p d[i]! then some (.inl ((rep d), (a : Int), ((i + 1 : Nat) : Int), (j : Int), ())) else some (.inr (.inl ((rep d), (a : Int), (i : Int), (j : Int), ())))) :
    ∀ (k i n : Nat), j + 1 - i = k → i ≤ d.size → k < n → iterO step n ((rep d), (a : Int), (i : Int), (j : Int), ()) = some (.inl ((rep d), (a : Int), ((scanUp p d j i : Nat) : Int), (j : Int), ())) := by
  intro k
  induction k using Nat.strongRecOn with
  | _ k ih =>
  intro i n hk hi hn
  obtain ⟨n, rfl⟩ : ∃ k, n = k + 1 := ⟨n - 1, by omega⟩
  rw [scanUp, iterO, h i hi]
  by_cases h1 : i ≤ j ∧ p d[i]! = true
  · rw [if_pos h1, if_pos (by simpa using h1)]
    exact ih (j + 1 - (i + 1)) (by omega) (i + 1) n rfl (by omega) (by omega)
  · rw [if_neg h1, if_neg (by simpa using h1)]
theorem scanDownL (step : List (List Int) × Int × Int × Int × Unit → Option ((List (List Int) × Int × Int × Int × Unit) ⊕ (List (List Int) × Int × Int × Int × Unit) ⊕ Unit)) (p : EL → Bool) (d : Array EL) (a i : Nat) (hi : 1 ≤ i)
    (h : ∀ j : Nat, j < d.size → step ((rep d), (a : Int), (i : Int), (j : Int), ()) = if i ≤ j ∧ p d[j]! then some (.inl ((rep d), (a : Int), (i : Int), ((j - 1 : Nat) : Int), ())) else some (.inr (.inl ((rep d), (a : Int), (i : Int), (j : Int), ())))) :
    ∀ (j n : Nat), j < d.size → j < n → iterO step n ((rep d), (a : Int), (i : Int), (j : Int), ()) = some (.inl ((rep d), (a : Int), (i : Int), ((scanDown p d i j : Nat) : Int), ())) := by
  intro j
  induction j with
  | zero =>
    intro n hj hn
    obtain ⟨n, rfl⟩ : ∃ k, n = k + 1 := ⟨n - 1, by omega⟩
    rw [iterO, h 0 hj, if_neg (by omega)]
    rfl
  | succ j ih =>
    intro n hj hn
    obtain ⟨n, rfl⟩ : ∃ k, n = k + 1 := ⟨n - 1, by omega⟩
    rw [scanDown, iterO, h (j + 1) hj]
    by_cases h1 : i ≤ j + 1 ∧ p d[j + 1]! = true
    · rw [if_pos h1, if_pos (by simpa using h1)]
      exact ih n (by omega) (by omega)
    · rw [if_neg h1, if_neg (by simpa using h1)]
section
variable (d : Array EL) (a i j : Nat) (hs : d.size < 4294967296) (ha : a < d.size) (hj : j < d.size)
include hs ha hj
theorem partL_s0_at (hi : i ≤ d.size) : partL_s0 ((rep d), (a : Int), (i : Int), (j : Int), ()) = if i ≤ j ∧ (fun x => ltX x d[a]!) d[i]! = true then some (.inl ((rep d), (a : Int), ((i + 1 : Nat) : Int), (j : Int), ())) else some (.inr (.inl ((rep d), (a : Int), (i : Int), (j : Int), ()))) := by
  rw [partL_s0]
  simp only [ile_nat]
  by_cases h : i ≤ j
  · have hi' : i < d.size := by omega
    simp (disch := omega) only [h, decide_true, idx_at, dget_at, less_val, less_lt, wrap_add1, true_and]
    cases ltX d[i]! d[a]! <;> simp
  · simp only [h, decide_false, false_and, if_false]
theorem partL_s3_at (hi : i ≤ d.size) : partL_s3 ((rep d), (a : Int), (i : Int), (j : Int), ()) = if i ≤ j ∧ (fun x => ltX x d[a]!) d[i]! = true then some (.inl ((rep d), (a : Int), ((i + 1 : Nat) : Int), (j : Int), ())) else some (.inr (.inl ((rep d), (a : Int), (i : Int), (j : Int), ()))) := by
  rw [partL_s3]
  simp only [ile_nat]
  by_cases h : i ≤ j
  · have hi' : i < d.size := by omega
    simp (disch := omega) only [h, decide_true, idx_at, dget_at, less_val, less_lt, wrap_add1, true_and]
    cases ltX d[i]! d[a]! <;> simp
  · simp only [h, decide_false, false_and, if_false]
theorem partL_s1_at (hi : 1 ≤ i) : partL_s1 ((rep d), (a : Int), (i : Int), (j : Int), ()) = if i ≤ j ∧ (fun x => !ltX x d[a]!) d[j]! = true then some (.inl ((rep d), (a : Int), (i : Int), ((j - 1 : Nat) : Int), ())) else some (.inr (.inl ((rep d), (a : Int), (i : Int), (j : Int), ()))) := by
  rw [partL_s1]
  simp only [ile_nat]
  by_cases h : i ≤ j
  · simp (disch := omega) only [h, decide_true, idx_at, dget_at, less_val, less_lt, wrap_sub1, true_and]
    cases ltX d[j]! d[a]! <;> simp
  · simp only [h, decide_false, false_and, if_false]
theorem partL_s4_at (hi : 1 ≤ i) : partL_s4 ((rep d), (a : Int), (i : Int), (j : Int), ()) = if i ≤ j ∧ (fun x => !ltX x d[a]!) d[j]! = true then some (.inl ((rep d), (a : Int), (i : Int), ((j - 1 : Nat) : Int), ())) else some (.inr (.inl ((rep d), (a : Int), (i : Int), (j : Int), ()))) := by
  rw [partL_s4]
  simp only [ile_nat]
  by_cases h : i ≤ j
  · simp (disch := omega) only [h, decide_true, idx_at, dget_at, less_val, less_lt, wrap_sub1, true_and]
    cases ltX d[j]! d[a]! <;> simp
  · simp only [h, decide_false, false_and, if_false]
theorem partEqL_s1_at (hi : i ≤ d.size) : partEqL_s1 ((rep d), (a : Int), (i : Int), (j : Int), ()) = if i ≤ j ∧ (fun x => !ltX d[a]! x) d[i]! = true then some (.inl ((rep d), (a : Int), ((i + 1 : Nat) : Int), (j : Int), ())) else some (.inr (.inl ((rep d), (a : Int), (i : Int), (j : Int), ()))) := by
  rw [partEqL_s1]
  simp only [ile_nat]
  by_cases h : i ≤ j
  · have hi' : i < d.size := by omega
    simp (disch := omega) only [h, decide_true, idx_at, dget_at, less_val, less_lt, wrap_add1, true_and]
    cases ltX d[a]! d[i]! <;> simp
  · simp only [h, decide_false, false_and, if_false]
theorem partEqL_s2_at (hi : 1 ≤ i) : partEqL_s2 ((rep d), (a : Int), (i : Int), (j : Int), ()) = if i ≤ j ∧ (fun x => ltX d[a]! x) d[j]! = true then some (.inl ((rep d), (a : Int), (i : Int), ((j - 1 : Nat) : Int), ())) else some (.inr (.inl ((rep d), (a : Int), (i : Int), (j : Int), ()))) := by
  rw [partEqL_s2]
  simp only [ile_nat]
  by_cases h : i ≤ j
  · simp (disch := omega) only [h, decide_true, idx_at, dget_at, less_val, less_lt, wrap_sub1, true_and]
    cases ltX d[a]! d[j]! <;> simp
  · simp only [h, decide_false, false_and, if_false]
end
theorem scanUp_size (p : EL → Bool) (d : Array EL) (j i : Nat) (hj : j < d.size) (hi : i ≤ d.size) : scanUp p d j i ≤ d.size := by
  suffices h : ∀ (k i : Nat), j + 1 - i = k → i ≤ d.size → scanUp p d j i ≤ d.size from h _ i rfl hi
  intro k
  induction k using Nat.strongRecOn with
  | _ k ih =>
  intro i hk hi
  rw [scanUp]
  split
  · rename_i h
    have : i ≤ j := by simp at h; exact h.1
    exact ih (j + 1 - (i + 1)) (by omega) (i + 1) rfl (by omega)
  · exact hi
theorem partL_loop (a : Nat) : ∀ (k i j : Nat) (d : Array EL) (n : Nat), j + 1 - i = k → a < d.size → 1 ≤ i → i ≤ d.size → j < d.size → d.size < 4294967296 → k < n →
    iterO partL_s2 n ((rep d), (a : Int), (i : Int), (j : Int), ()) = some (.inl ((rep (partLoop ltX a i j d).2), (a : Int), (((partLoop ltX a i j d).1 : Nat) : Int), ())) ∧ (partLoop ltX a i j d).1 ≤ j ∧ (partLoop ltX a i j d).2.size = d.size := by
  intro k
  induction k using Nat.strongRecOn with
  | _ k ih =>
  intro i j d n hk ha hi hi' hj hs hn
  have hm : 4294967296 < many := by simp only [many]; omega
  obtain ⟨n, rfl⟩ : ∃ k, n = k + 1 := ⟨n - 1, by omega⟩
  rw [partLoop_eq, iterO, partL_s2]
  have u1 := scanUp_ge (fun x => ltX x d[a]!) d j i
  have u2 := scanUp_size (fun x => ltX x d[a]!) d j i hj hi'
  rw [iterL_eq, scanUpL _ (fun x => ltX x d[a]!) d a j hs hj (fun i h => partL_s3_at d a i j hs ha hj h) _ i many rfl hi' (by omega)]
  generalize scanUp (fun x => ltX x d[a]!) d j i = i2 at *
  have v1 := scanDown_le (fun x => !ltX x d[a]!) d i2 j
  simp only [iterL_eq]
  rw [scanDownL _ (fun x => !ltX x d[a]!) d a i2 (by omega) (fun j h => partL_s4_at d a i2 j hs ha h (by omega)) j many hj (by omega)]
  generalize scanDown (fun x => !ltX x d[a]!) d i2 j = j2 at *
  simp only [ilt_nat]
  by_cases h : j2 < i2
  · simp only [h, decide_true, gt_iff_lt, if_true]
    exact ⟨trivial, v1, trivial⟩
  · have hi2 : i2 < d.size := by omega
    have hj2 : j2 < d.size := by omega
    simp only [h, decide_false, gt_iff_lt, if_false, idx_at hi2, idx_at hj2, (swapL hi2 hj2).1, (swapL hi2 hj2).2]
    simp (disch := omega) only [wrap_add1, wrap_sub1]
    obtain ⟨q1, q2, q3⟩ := ih (j2 - 1 + 1 - (i2 + 1)) (by omega) (i2 + 1) (j2 - 1) (swp d i2 j2) n rfl (by rw [size_swp]; omega) (by omega) (by rw [size_swp]; omega) (by rw [size_swp]; omega) (by rw [size_swp]; omega) (by omega)
    exact ⟨q1, by omega, by rw [q3, size_swp]⟩
theorem partL_val (d : Array EL) (a b p : Nat) (ha : a ≤ p) (hp : p < b) (hb : b ≤ d.size) (hs : d.size < 4294967296) :
    partL ((rep d), (a : Int), (b : Int), (p : Int), ()) = some ((rep (partition ltX d a b p).2.2), (((partition ltX d a b p).1 : Nat) : Int), (partition ltX d a b p).2.1, ()) := by
  have hm : 4294967296 < many := by simp only [many]; omega
  have ha' : a < d.size := by omega
  have hp' : p < d.size := by omega
  rw [partL_eq, partL_d, partition]
  simp only [idx_at ha', idx_at hp', (swapL ha' hp').1, (swapL ha' hp').2]
  have hs' := hs
  rw [← size_swp d a p] at ha' hs' hb
  generalize swp d a p = d at *
  simp (disch := omega) only [wrap_add1, wrap_sub1, iterL_eq]
  have u1 := scanUp_ge (fun x => ltX x d[a]!) d (b - 1) (a + 1)
  have u2 := scanUp_size (fun x => ltX x d[a]!) d (b - 1) (a + 1) (by omega) (by omega)
  rw [scanUpL _ (fun x => ltX x d[a]!) d a (b - 1) hs' (by omega) (fun i h => partL_s0_at d a i (b - 1) hs' ha' (by omega) h) _ (a + 1) many rfl (by omega) (by omega)]
  generalize scanUp (fun x => ltX x d[a]!) d (b - 1) (a + 1) = i2 at *
  have v1 := scanDown_le (fun x => !ltX x d[a]!) d i2 (b - 1)
  simp only []
  rw [scanDownL _ (fun x => !ltX x d[a]!) d a i2 (by omega) (fun j h => partL_s1_at d a i2 j hs' ha' h (by omega)) (b - 1) many (by omega) (by omega)]
  generalize scanDown (fun x => !ltX x d[a]!) d i2 (b - 1) = j2 at *
  simp only [ilt_nat]
  have hj2 : j2 < d.size := by omega
  by_cases h : j2 < i2
  · simp only [h, decide_true, gt_iff_lt, if_true, idx_at ha', idx_at hj2, (swapL hj2 ha').1, (swapL hj2 ha').2]
  · have hi2 : i2 < d.size := by omega
    simp only [h, decide_false, gt_iff_lt, if_false, idx_at hi2, idx_at hj2, (swapL hi2 hj2).1, (swapL hi2 hj2).2]
    simp (disch := omega) only [wrap_add1, wrap_sub1]
    obtain ⟨q1, q2, q3⟩ := partL_loop a (j2 - 1 + 1 - (i2 + 1)) (i2 + 1) (j2 - 1) (swp d i2 j2) many rfl (by rw [size_swp]; omega) (by omega) (by rw [size_swp]; omega) (by rw [size_swp]; omega) (by rw [size_swp]; omega) (by omega)
    simp only [q1]
    rw [size_swp] at q3
    generalize partLoop ltX a (i2 + 1) (j2 - 1) (swp d i2 j2) = r at *
    have h1 : r.1 < r.2.size := by omega
    have h2 : a < r.2.size := by omega
    simp only [idx_at h1, idx_at h2, (swapL h1 h2).1, (swapL h1 h2).2]
theorem partEqL_loop (a : Nat) : ∀ (k i j : Nat) (d : Array EL) (n : Nat), j + 1 - i = k → a < d.size → 1 ≤ i → i ≤ d.size → j < d.size → d.size < 4294967296 → k < n →
    iterO partEqL_s0 n ((rep d), (a : Int), (i : Int), (j : Int), ()) = some (.inl ((rep (partEqLoop ltX a i j d).2), (((partEqLoop ltX a i j d).1 : Nat) : Int), ())) := by
  intro k
  induction k using Nat.strongRecOn with
  | _ k ih =>
  intro i j d n hk ha hi hi' hj hs hn
  have hm : 4294967296 < many := by simp only [many]; omega
  obtain ⟨n, rfl⟩ : ∃ k, n = k + 1 := ⟨n - 1, by omega⟩
  rw [partEqLoop_eq, iterO, partEqL_s0]
  have u1 := scanUp_ge (fun x => !ltX d[a]! x) d j i
  have u2 := scanUp_size (fun x => !ltX d[a]! x) d j i hj hi'
  rw [iterL_eq, scanUpL _ (fun x => !ltX d[a]! x) d a j hs hj (fun i h => partEqL_s1_at d a i j hs ha hj h) _ i many rfl hi' (by omega)]
  generalize scanUp (fun x => !ltX d[a]! x) d j i = i2 at *
  have v1 := scanDown_le (fun x => ltX d[a]! x) d i2 j
  simp only [iterL_eq]
  rw [scanDownL _ (fun x => ltX d[a]! x) d a i2 (by omega) (fun j h => partEqL_s2_at d a i2 j hs ha h (by omega)) j many hj (by omega)]
  generalize scanDown (fun x => ltX d[a]! x) d i2 j = j2 at *
  simp only [ilt_nat]
  by_cases h : j2 < i2
  · simp only [h, decide_true, gt_iff_lt, if_true]
  · have hi2 : i2 < d.size := by omega
    have hj2 : j2 < d.size := by omega
    simp only [h, decide_false, gt_iff_lt, if_false, idx_at hi2, idx_at hj2, (swapL hi2 hj2).1, (swapL hi2 hj2).2]
    simp (disch := omega) only [wrap_add1, wrap_sub1]
    exact ih (j2 - 1 + 1 - (i2 + 1)) (by omega) (i2 + 1) (j2 - 1) (swp d i2 j2) n rfl (by rw [size_swp]; omega) (by omega) (by rw [size_swp]; omega) (by rw [size_swp]; omega) (by rw [size_swp]; omega) (by omega)
theorem partEqL_val (d : Array EL) (a b p : Nat) (ha : a ≤ p) (hp : p < b) (hb : b ≤ d.size) (hs : d.size < 4294967296) :
    partEqL ((rep d), (a : Int), (b : Int), (p : Int), ()) = some ((rep (partitionEqual ltX d a b p).2), (((partitionEqual ltX d a b p).1 : Nat) : Int), ()) := by
  have hm : 4294967296 < many := by simp only [many]; omega
  have ha' : a < d.size := by omega
  have hp' : p < d.size := by omega
  rw [partEqL_eq, partEqL_d, partitionEqual]
  simp only [idx_at ha', idx_at hp', (swapL ha' hp').1, (swapL ha' hp').2]
  have hs' := hs
  rw [← size_swp d a p] at ha' hs' hb
  generalize swp d a p = d at *
  simp (disch := omega) only [wrap_add1, wrap_sub1, iterL_eq]
  rw [partEqL_loop a _ (a + 1) (b - 1) d many rfl ha' (by omega) (by omega) (by omega) hs' (by omega)]
end Go.Pev.Pl.SL
end
section
namespace Go.Pev.Pl.SL
open Go.Sort
theorem scanSorted_bounds (d : Array EL) (b : Nat) : ∀ (k i : Nat), b - i = k → i ≤ b → i ≤ scanSorted ltX d b i ∧ scanSorted ltX d b i ≤ b := by
  intro k
  induction k using Nat.strongRecOn with
  | _ k ih =>
  intro i hk hi
  rw [scanSorted]
  split
  · rename_i h
    have : i < b := by simp at h; exact h.1
    have := ih (b - (i + 1)) (by omega) (i + 1) rfl (by omega)
    omega
  · omega
theorem partInsL_scan (d : Array EL) (a b s : Nat) (hb : b ≤ d.size) (hs : d.size < 4294967296) : ∀ (k i n : Nat), b - i = k → 1 ≤ i → i ≤ b → k < n →
    iterO partInsL_s1 n ((rep d), (a : Int), (b : Int), (i : Int), (s : Int), ()) = some (.inl ((rep d), (a : Int), (b : Int), ((scanSorted ltX d b i : Nat) : Int), (s : Int), ())) := by
  intro k
  induction k using Nat.strongRecOn with
  | _ k ih =>
  intro i n hk h1 hi hn
  obtain ⟨n, rfl⟩ : ∃ k, n = k + 1 := ⟨n - 1, by omega⟩
  rw [scanSorted, iterO, partInsL_s1]
  simp only [ilt_nat]
  by_cases h : i < b
  · have i0 : i < d.size := by omega
    have i1 : i - 1 < d.size := by omega
    simp (disch := omega) only [h, decide_true, wrap_sub1, wrap_add1, idx_at, dget_at, less_val, less_lt, Bool.true_and]
    cases h2 : ltX d[i]! d[i - 1]!
    · simp only [Bool.not_false, if_true]
      exact ih (b - (i + 1)) (by omega) (i + 1) n rfl (by omega) (by omega) (by omega)
    · simp only [Bool.not_true, Bool.false_eq_true, if_false]
  · simp only [h, decide_false, Bool.false_and, Bool.false_eq_true, if_false]
theorem partInsL_down (a b i s : Nat) : ∀ (j : Nat) (d : Array EL) (n : Nat), j < d.size → d.size < 4294967296 → j < n →
    iterO partInsL_s2 n ((rep d), (a : Int), (b : Int), (i : Int), (s : Int), (j : Int), ()) = some (.inl ((rep (shiftDown ltX j d)), (a : Int), (b : Int), (i : Int), (s : Int), ())) := by
  intro j
  induction j with
  | zero =>
    intro d n hj hs hn
    obtain ⟨n, rfl⟩ : ∃ k, n = k + 1 := ⟨n - 1, by omega⟩
    rw [iterO, partInsL_s2, ile_eq, decide_eq_false (by omega)]
    rfl
  | succ j ih =>
    intro d n hj hs hn
    obtain ⟨n, rfl⟩ : ∃ k, n = k + 1 := ⟨n - 1, by omega⟩
    have hj' : j < d.size := by omega
    rw [shiftDown, iterO, partInsL_s2, ile_eq, decide_eq_true (by omega)]
    simp (disch := omega) only [wrap_sub1, Nat.add_sub_cancel, idx_at, dget_at, less_val, less_lt]
    cases h2 : ltX d[j + 1]! d[j]!
    · simp only [Bool.not_false, if_true]
    · have e1 := swapL hj hj'
      simp only [dget_at hj, dget_at hj'] at e1
      simp only [Bool.not_true, Bool.false_eq_true, if_false, e1]
      exact ih _ n (by rw [size_swp]; omega) (by rw [size_swp]; omega) (by omega)
theorem partInsL_up (a b i s : Nat) : ∀ (k j : Nat) (d : Array EL) (n : Nat), b - j = k → 1 ≤ j → b ≤ d.size → d.size < 4294967296 → k < n →
    iterO partInsL_s3 n ((rep d), (a : Int), (b : Int), (i : Int), (s : Int), (j : Int), ()) = some (.inl ((rep (shiftUp ltX b j d)), (a : Int), (b : Int), (i : Int), (s : Int), ())) := by
  intro k
  induction k using Nat.strongRecOn with
  | _ k ih =>
  intro j d n hk h1 hb hs hn
  obtain ⟨n, rfl⟩ : ∃ k, n = k + 1 := ⟨n - 1, by omega⟩
  rw [shiftUp, iterO, partInsL_s3]
  simp only [ilt_nat]
  by_cases h : j < b
  · have i0 : j < d.size := by omega
    have i1 : j - 1 < d.size := by omega
    simp (disch := omega) only [h, decide_true, if_true, wrap_sub1, wrap_add1, idx_at, dget_at, less_val, less_lt]
    cases h2 : ltX d[j]! d[j - 1]!
    · simp only [Bool.not_false, if_true]
    · have e1 := swapL i0 i1
      simp only [dget_at i0, dget_at i1] at e1
      simp only [Bool.not_true, Bool.false_eq_true, if_false, e1]
      exact ih (b - (j + 1)) (by omega) (j + 1) _ n rfl (by omega) (by rw [size_swp]; omega) (by rw [size_swp]; omega) (by omega)
  · simp only [h, decide_false, if_false]
theorem size_shiftDown : ∀ (j : Nat) (d : Array EL), (shiftDown ltX j d).size = d.size := by
  intro j
  induction j with
  | zero => intro d; rfl
  | succ j ih =>
    intro d
    rw [shiftDown]
    split
    · rfl
    · rw [ih, size_swp]
theorem size_shiftUp (b : Nat) : ∀ (k j : Nat) (d : Array EL), b - j = k → (shiftUp ltX b j d).size = d.size := by
  intro k
  induction k using Nat.strongRecOn with
  | _ k ih =>
  intro j d hk
  rw [shiftUp]
  split
  · split
    · rfl
    · rw [ih (b - (j + 1)) (by omega) (j + 1) _ rfl, size_swp]
  · rfl
theorem partInsL_loop (a b : Nat) (hab : a < b) : ∀ (k i s : Nat) (d : Array EL) (n : Nat), s + k = 5 → a + 1 ≤ i → i ≤ b → b ≤ d.size → d.size < 4294967296 → k < n →
    iterO partInsL_s0 n ((rep d), (a : Int), (b : Int), (i : Int), (s : Int), ()) = some (.inl ((rep (partialIns ltX a b k i d).1), (partialIns ltX a b k i d).2, ())) ∨
    ((partialIns ltX a b k i d).2 = false ∧ iterO partInsL_s0 n ((rep d), (a : Int), (b : Int), (i : Int), (s : Int), ()) = some (.inr (.inl ((rep (partialIns ltX a b k i d).1), ())))) := by
  intro k
  induction k with
  | zero =>
    intro i s d n hk h1 hi hb hs hn
    obtain ⟨n, rfl⟩ : ∃ k, n = k + 1 := ⟨n - 1, by omega⟩
    rw [iterO, partInsL_s0, ilt_eq, decide_eq_false (by omega)]
    exact .inr ⟨rfl, rfl⟩
  | succ k ih =>
    intro i s d n hk h1 hi hb hs hn
    have hm : 4294967296 < many := by simp only [many]; omega
    have es : IntKind.wrap .i64 ((s : Int) + 1) = ((s + 1 : Nat) : Int) := wrap_add1 (by omega)
    obtain ⟨n, rfl⟩ : ∃ k, n = k + 1 := ⟨n - 1, by omega⟩
    rw [iterO, partInsL_s0, ilt_eq, decide_eq_true (by omega), partialIns]
    simp only [iterL_eq, partInsL_scan d a b s hb hs (b - i) i many rfl (by omega) hi (by omega)]
    have hsc := scanSorted_bounds d b _ i rfl hi
    generalize scanSorted ltX d b i = i2 at *
    simp only [ieq_nat]
    by_cases h2 : i2 = b
    · simp only [h2, decide_true, if_true, true_or]
    · simp (disch := omega) only [h2, decide_false, if_false, wrap_sub, ilt_eq, ile_eq]
      by_cases h3 : b - a < 50
      · rw [if_pos h3, decide_eq_true (by omega)]
        exact .inl rfl
      · have i0 : i2 < d.size := by omega
        have i1 : i2 - 1 < d.size := by omega
        rw [if_neg h3, decide_eq_false (by omega)]
        simp (disch := omega) only [wrap_sub1, wrap_add1, idx_at i0, idx_at i1, (swapL i0 i1).1, (swapL i0 i1).2]
        have hsz := size_swp d i2 (i2 - 1)
        generalize swp d i2 (i2 - 1) = d2 at *
        by_cases h4 : i2 - a ≥ 2
        · rw [if_pos h4, decide_eq_true (show (2 : Int) ≤ ((i2 - a : Nat) : Int) by omega)]
          simp only [partInsL_down a b i2 s (i2 - 1) d2 many (by omega) (by omega) (by omega)]
          have hsz2 := size_shiftDown (i2 - 1) d2
          generalize shiftDown ltX (i2 - 1) d2 = d3 at *
          simp (disch := omega) only [wrap_sub, wrap_add1]
          by_cases h5 : b - i2 ≥ 2
          · rw [if_pos h5, decide_eq_true (show (2 : Int) ≤ ((b - i2 : Nat) : Int) by omega)]
            simp only [partInsL_up a b i2 s _ (i2 + 1) d3 many rfl (by omega) (by omega) (by omega) (by omega)]
            simp only [es]
            exact ih i2 (s + 1) (shiftUp ltX b (i2 + 1) d3) n (by omega) (by omega) (by omega) (by rw [size_shiftUp b (b - (i2 + 1)) (i2 + 1) _ rfl]; omega) (by rw [size_shiftUp b (b - (i2 + 1)) (i2 + 1) _ rfl]; omega) (by omega)
          · rw [if_neg h5, decide_eq_false (show ¬ (2 : Int) ≤ ((b - i2 : Nat) : Int) by omega)]
            simp only [es]
            exact ih i2 (s + 1) d3 n (by omega) (by omega) (by omega) (by omega) (by omega) (by omega)
        · rw [if_neg h4, decide_eq_false (show ¬ (2 : Int) ≤ ((i2 - a : Nat) : Int) by omega)]
          by_cases h5 : b - i2 ≥ 2
          · rw [if_pos h5, decide_eq_true (show (2 : Int) ≤ ((b - i2 : Nat) : Int) by omega)]
            simp only [partInsL_up a b i2 s _ (i2 + 1) d2 many rfl (by omega) (by omega) (by omega) (by omega)]
            simp only [es]
            exact ih i2 (s + 1) (shiftUp ltX b (i2 + 1) d2) n (by omega) (by omega) (by omega) (by rw [size_shiftUp b (b - (i2 + 1)) (i2 + 1) _ rfl]; omega) (by rw [size_shiftUp b (b - (i2 + 1)) (i2 + 1) _ rfl]; omega) (by omega)
          · rw [if_neg h5, decide_eq_false (show ¬ (2 : Int) ≤ ((b - i2 : Nat) : Int) by omega)]
            simp only [es]
            exact ih i2 (s + 1) d2 n (by omega) (by omega) (by omega) (by omega) (by omega) (by omega)
theorem partInsL_val (d : Array EL) (a b : Nat) (hab : a < b) (hb : b ≤ d.size) (hs : d.size < 4294967296) :
    partInsL ((rep d), (a : Int), (b : Int), ()) = some ((rep (partialInsertionSort ltX d a b).1), (partialInsertionSort ltX d a b).2, ()) := by
  have hm : 4294967296 < many := by simp only [many]; omega
  rw [partInsL_eq, partInsL_d, partialInsertionSort]
  simp (disch := omega) only [wrap_add1, iterL_eq]
  have h := partInsL_loop a b hab 5 (a + 1) 0 d many rfl (Nat.le_refl _) (by omega) hb hs (by omega)
  rcases h with h | ⟨h0, h⟩
  · have h' : iterO partInsL_s0 many ((rep d), (a : Int), (b : Int), ((a + 1 : Nat) : Int), (0 : Int), ()) = _ := h
    rw [h']
  · have h' : iterO partInsL_s0 many ((rep d), (a : Int), (b : Int), ((a + 1 : Nat) : Int), (0 : Int), ()) = _ := h
    rw [h', h0]
theorem order2L_val (d : Array EL) (a b : Nat) (s : Int) (ha : a < d.size) (hb : b < d.size) :
    ∃ s' p q, order2L ((rep d), (a : Int), (b : Int), s, ()) = some ((rep d), s', ((p : Nat) : Int), ((q : Nat) : Int), ()) ∧ (p = a ∧ q = b ∨ p = b ∧ q = a) := by
  rw [order2L_eq, order2L_d]
  simp only [idx_at ha, idx_at hb, dget_at ha, dget_at hb, less_val, less_lt]
  cases ltX d[b]! d[a]!
  · exact ⟨_, a, b, rfl, .inl ⟨rfl, rfl⟩⟩
  · exact ⟨_, b, a, rfl, .inr ⟨rfl, rfl⟩⟩
theorem medianL_val (d : Array EL) (a b c : Nat) (s : Int) (ha : a < d.size) (hb : b < d.size) (hc : c < d.size) :
    ∃ s' p, medianL ((rep d), (a : Int), (b : Int), (c : Int), s, ()) = some ((rep d), s', ((p : Nat) : Int), ()) ∧ (p = a ∨ p = b ∨ p = c) := by
  rw [medianL_eq, medianL_d]
  obtain ⟨s1, p1, q1, e1, h1⟩ := order2L_val d a b s ha hb
  simp only [e1]
  obtain ⟨s2, p2, q2, e2, h2⟩ := order2L_val d q1 c s1 (by omega) hc
  simp only [e2]
  obtain ⟨s3, p3, q3, e3, h3⟩ := order2L_val d p1 p2 s2 (by omega) (by omega)
  simp only [e3]
  exact ⟨_, q3, rfl, by omega⟩
theorem medAdjL_val (d : Array EL) (a : Nat) (s : Int) (h1 : 1 ≤ a) (ha : a + 1 < d.size) (hs : d.size < 4294967296) :
    ∃ s' p, medAdjL ((rep d), (a : Int), s, ()) = some ((rep d), s', ((p : Nat) : Int), ()) ∧ a ≤ p + 1 ∧ p ≤ a + 1 := by
  rw [medAdjL_eq, medAdjL_d]
  simp (disch := omega) only [wrap_sub1, wrap_add1]
  obtain ⟨s1, p1, e1, h1⟩ := medianL_val d (a - 1) a (a + 1) s (by omega) (by omega) ha
  simp only [e1]
  exact ⟨_, p1, rfl, by omega⟩
theorem pivotL_val (d : Array EL) (a b : Nat) (hab : a + 8 ≤ b) (hb : b ≤ d.size) (hs : d.size < 4294967296) :
    ∃ p h, pivotL ((rep d), (a : Int), (b : Int), ()) = some ((rep d), ((p : Nat) : Int), h, ()) ∧ a ≤ p ∧ p < b := by
  rw [pivotL_eq, pivotL_d]
  simp (disch := omega) only [wrap_sub, quo_4, wrap_mul1, wrap_mul2, wrap_mul3, wrap_add, ile_eq]
  rw [decide_eq_true (show (8 : Int) ≤ ((b - a : Nat) : Int) by omega)]
  simp only []
  by_cases h : 50 ≤ b - a
  · rw [decide_eq_true (show (50 : Int) ≤ ((b - a : Nat) : Int) by omega)]
    simp only []
    obtain ⟨s1, p1, e1, h1⟩ := medAdjL_val d (a + (b - a) / 4 * 1) 0 (by omega) (by omega) hs
    simp only [e1]
    obtain ⟨s2, p2, e2, h2⟩ := medAdjL_val d (a + (b - a) / 4 * 2) s1 (by omega) (by omega) hs
    simp only [e2]
    obtain ⟨s3, p3, e3, h3⟩ := medAdjL_val d (a + (b - a) / 4 * 3) s2 (by omega) (by omega) hs
    simp only [e3]
    obtain ⟨s4, p4, e4, h4⟩ := medianL_val d p1 p2 p3 s3 (by omega) (by omega) (by omega)
    simp only [e4]
    cases ieq s4 0
    · cases ieq s4 12
      · exact ⟨p4, _, rfl, by omega, by omega⟩
      · exact ⟨p4, _, rfl, by omega, by omega⟩
    · exact ⟨p4, _, rfl, by omega, by omega⟩
  · rw [decide_eq_false (show ¬ (50 : Int) ≤ ((b - a : Nat) : Int) by omega)]
    simp only []
    obtain ⟨s4, p4, e4, h4⟩ := medianL_val d (a + (b - a) / 4 * 1) (a + (b - a) / 4 * 2) (a + (b - a) / 4 * 3) 0 (by omega) (by omega) (by omega)
    simp only [e4]
    cases ieq s4 0
    · cases ieq s4 12
      · exact ⟨p4, _, rfl, by omega, by omega⟩
      · exact ⟨p4, _, rfl, by omega, by omega⟩
    · exact ⟨p4, _, rfl, by omega, by omega⟩
end Go.Pev.Pl.SL
end
section
namespace Go.Pev.Pl
open Go.Sort
set_option maxRecDepth 100000
theorem lenTab_ok : (List.range 256).all (fun k => match lenTab[k]? with
    | some v => decide (0 ≤ v) && (decide (v ≤ 8) && decide (2 ^ v.toNat ≤ max 1 (2 * k)))
    | none => false) = true := by decide +kernel
theorem lenTab_at {k : Nat} (h : k < 256) : ∃ v : Nat, idx lenTab (k : Int) = some (v : Int) ∧ v ≤ 8 ∧ 2 ^ v ≤ max 1 (2 * k) := by
  have := List.all_eq_true.1 lenTab_ok k (List.mem_range.2 h)
  rw [idx_eq, idxR, if_neg (by omega), Int.toNat_natCast]
  cases e : lenTab[k]? with
  | none => rw [e] at this; cases this
  | some v =>
    rw [e] at this
    simp only [Bool.and_eq_true, decide_eq_true_eq] at this
    exact ⟨v.toNat, by rw [Int.toNat_of_nonneg this.1], by omega, this.2.2⟩
theorem shr_nat (n s : Nat) (h : s ≤ 64) : shr? .u64 (n : Int) (s : Int) = some ((n / 2 ^ s : Nat) : Int) := by
  rw [shr_eq, shrR, if_neg (by omega), Int.toNat_natCast, show min s (IntKind.bits .u64) = s from Nat.min_eq_left h, Int.fdiv_eq_ediv_of_nonneg _ (Int.pow_nonneg (by omega))]
  rfl
theorem u8_in {n : Int} (h : 0 ≤ n ∧ n ≤ 255) : IntKind.wrap .u8 n = n := IntWalk.u8_in n h
theorem u64_in {n : Int} (h : 0 ≤ n ∧ n ≤ 18446744073709551615) : IntKind.wrap .u64 n = n := IntWalk.u64_in n h
theorem len64_val (n : Nat) (hn : n < 4294967296) : ∃ v : Nat, len64 ((n : Int), ()) = some ((v : Int), ()) ∧ v ≤ 32 ∧ 2 ^ v ≤ max 1 (2 * n) := by
  rw [len64_eq, len64_d, ile_eq, decide_eq_false (by omega)]
  simp only [ile_eq]
  have key : ∀ (s m : Nat), s ≤ 24 → m < 256 → m * 2 ^ s ≤ n → (s = 0 ∨ 1 ≤ m) → ∃ v : Nat, idx lenTab (m : Int) = some (v : Int) ∧ v ≤ 8 ∧ 2 ^ (s + v) ≤ max 1 (2 * n) := by
    intro s m hs hm hle h1
    obtain ⟨v, e, h8, hp⟩ := lenTab_at hm
    refine ⟨v, e, h8, ?_⟩
    rcases h1 with rfl | h1
    · rw [Nat.zero_add]; simp at hle; omega
    · have h2 : 2 ^ v ≤ 2 * m := by omega
      have h3 : 2 ^ (s + v) ≤ 2 * (m * 2 ^ s) := by
        rw [Nat.pow_add, Nat.mul_comm (2 ^ s), ← Nat.mul_assoc]
        exact Nat.mul_le_mul_right _ h2
      omega
  by_cases h1 : 65536 ≤ n
  · rw [decide_eq_true (show (65536 : Int) ≤ (n : Int) by omega)]
    have e16 : shr? .u64 (n : Int) 16 = some ((n / 65536 : Nat) : Int) := shr_nat n 16 (by omega)
    simp only [e16]
    by_cases h2 : 256 ≤ n / 65536
    · rw [decide_eq_true (show (256 : Int) ≤ ((n / 65536 : Nat) : Int) by omega)]
      have e8 : shr? .u64 ((n / 65536 : Nat) : Int) 8 = some ((n / 65536 / 256 : Nat) : Int) := shr_nat _ 8 (by omega)
      obtain ⟨v, e, h8, hp⟩ := key 24 (n / 65536 / 256) (by omega) (by omega) (by omega) (by omega)
      simp only [e8]
      rw [u8_in (by omega)]
      simp only [e]
      refine ⟨24 + v, ?_, by omega, hp⟩
      rw [wrap_in (n := 0 + 16) (by omega), wrap_in (n := (0 : Int) + 16 + 8) (by omega), wrap_in (n := (v : Int)) (by omega), wrap_in (by omega)]
      congr 2
    · rw [decide_eq_false (show ¬ (256 : Int) ≤ ((n / 65536 : Nat) : Int) by omega)]
      obtain ⟨v, e, h8, hp⟩ := key 16 (n / 65536) (by omega) (by omega) (by omega) (by omega)
      simp only []
      rw [u8_in (by omega)]
      simp only [e]
      refine ⟨16 + v, ?_, by omega, hp⟩
      rw [wrap_in (n := 0 + 16) (by omega), wrap_in (n := (v : Int)) (by omega), wrap_in (by omega)]
      congr 2
  · rw [decide_eq_false (show ¬ (65536 : Int) ≤ (n : Int) by omega)]
    by_cases h2 : 256 ≤ n
    · have e8 : shr? .u64 (n : Int) 8 = some ((n / 256 : Nat) : Int) := shr_nat n 8 (by omega)
      obtain ⟨v, e, h8, hp⟩ := key 8 (n / 256) (by omega) (by omega) (by omega) (by omega)
      simp only []
      rw [decide_eq_true (show (256 : Int) ≤ (n : Int) by omega)]
      simp only [e8]
      rw [u8_in (by omega)]
      simp only [e]
      refine ⟨8 + v, ?_, by omega, hp⟩
      rw [wrap_in (n := 0 + 8) (by omega), wrap_in (n := (v : Int)) (by omega), wrap_in (by omega)]
      congr 2
    · obtain ⟨v, e, h8, hp⟩ := key 0 n (by omega) (by omega) (by omega) (by omega)
      simp only []
      rw [decide_eq_false (show ¬ (256 : Int) ≤ (n : Int) by omega)]
      simp only []
      rw [u8_in (by omega)]
      simp only [e]
      refine ⟨0 + v, ?_, by omega, hp⟩
      rw [wrap_in (n := (v : Int)) (by omega), wrap_in (by omega)]
      congr 2
theorem bitsLen_val (n : Nat) (hn : n < 4294967296) : ∃ v : Nat, bitsLen ((n : Int), ()) = some ((v : Int), ()) ∧ v ≤ 32 ∧ 2 ^ v ≤ max 1 (2 * n) := by
  rw [bitsLen_eq, bitsLen_d]
  obtain ⟨v, e, h⟩ := len64_val n hn
  simp only [e]
  exact ⟨v, rfl, h⟩
theorem nextPow_val (n : Nat) (h1 : 1 ≤ n) (hn : n < 4294967296) : ∃ m : Nat, nextPow ((n : Int), ()) = some ((m : Int), ()) ∧ 1 ≤ m ∧ m ≤ 2 * n := by
  rw [nextPow_eq, nextPow_d, u64_in (by omega)]
  obtain ⟨v, e, h32, hp⟩ := bitsLen_val n hn
  simp only [e]
  have e2 : shl? .u64 (1 : Int) (v : Int) = some ((2 ^ v : Nat) : Int) := by
    rw [shl_eq, shlR, if_neg (by omega), Int.toNat_natCast, show min v (IntKind.bits .u64) = v from Nat.min_eq_left (by show v ≤ 64; omega), Int.one_mul]
    have : 2 ^ v ≤ 2 ^ 32 := Nat.pow_le_pow_right (by omega) h32
    have h1 : 1 ≤ 2 ^ v := Nat.one_le_two_pow
    have e : ((2 : Int) ^ v) = ((2 ^ v : Nat) : Int) := by simp
    rw [e, u64_in (by constructor <;> omega)]
  simp only [e2]
  exact ⟨2 ^ v, rfl, Nat.one_le_two_pow, by omega⟩
theorem xorNext_val (r : Int) : ∃ r' y, xorNext (r, ()) = some (r', y, ()) := by
  rw [xorNext_eq, xorNext_d, shl_eq, shlR, if_neg (by omega)]
  simp only []
  rw [shr_eq, shrR, if_neg (by omega)]
  simp only []
  rw [shl_eq, shlR, if_neg (by omega)]
  exact ⟨_, _, rfl⟩
theorem other_le (y : Int) (m : Nat) (h1 : 1 ≤ m) (hm : m < 18446744073709551616) : ∃ o : Nat, IntKind.wrap .u64 ((BitVec.ofInt (IntKind.bits .u64) y &&& BitVec.ofInt (IntKind.bits .u64) (IntKind.wrap .u64 ((m : Int) - 1))).toNat) = (o : Int) ∧ o < m := by
  rw [u64_in (n := (m : Int) - 1) (by omega), show (m : Int) - 1 = ((m - 1 : Nat) : Int) by omega, BitVec.toNat_and]
  have h2 : (BitVec.ofInt (IntKind.bits .u64) ((m - 1 : Nat) : Int)).toNat = m - 1 := by
    rw [BitVec.ofInt_natCast, BitVec.toNat_ofNat]
    exact Nat.mod_eq_of_lt (by show m - 1 < 18446744073709551616; omega)
  rw [h2]
  have h3 : (BitVec.ofInt (IntKind.bits .u64) y).toNat &&& (m - 1) ≤ m - 1 := Nat.and_le_right
  exact ⟨_, u64_in (by omega), by omega⟩
end Go.Pev.Pl
end
section
namespace Go.Pev.Pl.SL
open Go.Sort
theorem breakL_loop (a b : Nat) (m : Nat) (h8 : a + 8 ≤ b) (hm1 : 1 ≤ m) (hm : m ≤ 2 * (b - a)) : ∀ (k t : Nat) (d : Array EL) (r : Int) (n : Nat), t + k = 3 → b ≤ d.size → d.size < 4294967296 → k < n →
    ∃ d' : Array EL, iterO breakL_s0 n ((rep d), (a : Int), ((b - a : Nat) : Int), r, (m : Int), ((a + (b - a) / 4 * 2 - 1 + t : Nat) : Int), ()) = some (.inl ((rep d'), ())) ∧ PermIn a b d d' := by
  intro k
  induction k with
  | zero =>
    intro t d r n hk hb hs hn
    obtain ⟨n, rfl⟩ : ∃ k, n = k + 1 := ⟨n - 1, by omega⟩
    rw [iterO, breakL_s0]
    simp (disch := omega) only [quo_4, wrap_mul2, wrap_add, wrap_add1, ile_nat]
    rw [decide_eq_false (by omega)]
    exact ⟨d, rfl, permIn_refl d a b⟩
  | succ k ih =>
    intro t d r n hk hb hs hn
    obtain ⟨n, rfl⟩ : ∃ k, n = k + 1 := ⟨n - 1, by omega⟩
    rw [iterO, breakL_s0]
    simp (disch := omega) only [quo_4, wrap_mul2, wrap_add, wrap_add1, ile_nat]
    rw [decide_eq_true (show a + (b - a) / 4 * 2 - 1 + t ≤ a + (b - a) / 4 * 2 + 1 by omega)]
    obtain ⟨r', y, e⟩ := xorNext_val r
    obtain ⟨o, e2, ho⟩ := other_le y m hm1 (by omega)
    simp only [e, e2]
    rw [wrap_in (n := (o : Int)) (by omega)]
    simp only [ile_nat]
    have i0 : a + (b - a) / 4 * 2 - 1 + t < d.size := by omega
    have fin : ∀ q : Nat, a ≤ q → q < b → ∃ d' : Array EL, iterO breakL_s0 n ((rep (swp d (a + (b - a) / 4 * 2 - 1 + t) q)), (a : Int), ((b - a : Nat) : Int), r', (m : Int), ((a + (b - a) / 4 * 2 - 1 + t + 1 : Nat) : Int), ()) = some (.inl ((rep d'), ())) ∧ PermIn a b d d' := by
      intro q hq1 hq2
      obtain ⟨d', e', hp⟩ := ih (t + 1) (swp d (a + (b - a) / 4 * 2 - 1 + t) q) r' n (by omega) (by rw [size_swp]; omega) (by rw [size_swp]; omega) (by omega)
      exact ⟨d', e', permIn_trans _ _ _ a b (swp_permIn d a b _ q (by omega) (by omega) hq1 hq2 hb) hp⟩
    by_cases h : b - a ≤ o
    · have i1 : a + (o - (b - a)) < d.size := by omega
      simp (disch := omega) only [h, decide_true, wrap_sub, wrap_add, wrap_add1, idx_at i0, idx_at i1, (swapL i0 i1).1, (swapL i0 i1).2]
      exact fin _ (by omega) (by omega)
    · have i1 : a + o < d.size := by omega
      simp (disch := omega) only [h, decide_false, wrap_sub, wrap_add, wrap_add1, idx_at i0, idx_at i1, (swapL i0 i1).1, (swapL i0 i1).2]
      exact fin _ (by omega) (by omega)
theorem breakL_val (d : Array EL) (a b : Nat) (hab : a ≤ b) (hb : b ≤ d.size) (hs : d.size < 4294967296) :
    ∃ d' : Array EL, breakL ((rep d), (a : Int), (b : Int), ()) = some ((rep d'), ()) ∧ PermIn a b d d' := by
  have hm : 4294967296 < many := by simp only [many]; omega
  rw [breakL_eq, breakL_d]
  simp (disch := omega) only [wrap_sub, ile_eq]
  by_cases h : 8 ≤ b - a
  · rw [decide_eq_true (show (8 : Int) ≤ ((b - a : Nat) : Int) by omega)]
    obtain ⟨m, e, h1, h2⟩ := nextPow_val (b - a) (by omega) (by omega)
    simp only [e]
    rw [u64_in (n := ((b - a : Nat) : Int)) (by omega)]
    simp (disch := omega) only [quo_4, wrap_mul2, wrap_add, wrap_sub1, iterL_eq]
    obtain ⟨d', e2, hp⟩ := breakL_loop a b m (by omega) h1 h2 3 0 d ((b - a : Nat) : Int) many rfl hb hs (by omega)
    rw [Nat.add_zero] at e2
    simp only [e2]
    exact ⟨d', rfl, hp⟩
  · rw [decide_eq_false (show ¬ (8 : Int) ≤ ((b - a : Nat) : Int) by omega)]
    exact ⟨d, rfl, permIn_refl d a b⟩
end Go.Pev.Pl.SL
end
section
namespace Go.Pev.Pl.SL
open Go.Sort
abbrev PdqSt := List (List Int) × Int × Int × Int × Bool × Bool × Unit
abbrev PdqOutT := PdqSt ⊕ (List (List Int) × Unit) ⊕ Unit
noncomputable section
def pdqTail (self : (List (List Int) × Int × Int × Int × Unit) → Option ((List (List Int) × Unit))) (y7 : List (List Int)) (a1 a2 p l : Int) (a4 a5 : Bool) : Option PdqOutT :=
  match (ilt (0 : Int) a1) with
  | true => match idx y7 (IntKind.wrap .i64 (a1 - (1 : Int))) with
    | none => none
    | some x9 => match idx y7 p with
      | none => none
      | some x10 => match with1 ((dget y7 (dnat (IntKind.wrap .i64 (a1 - (1 : Int)))) ([] : List Int)), (dget y7 (dnat p) ([] : List Int)), ()) with
        | none => none
        | some (y11, _) => match (!(ilt y11 (0 : Int))) with
          | true => match partEqL (y7, a1, a2, p, ()) with
            | none => none
            | some (y12, y13, _) => some (.inl (y12, y13, a2, l, a4, a5, ()))
          | false => match partL (y7, a1, a2, p, ()) with
            | none => none
            | some (y14, y15, y16, _) => match quo? .i64 (IntKind.wrap .i64 (a2 - a1)) (8 : Int) with
              | none => none
              | some x17 => match (ilt (IntKind.wrap .i64 (y15 - a1)) (IntKind.wrap .i64 (a2 - y15))) with
                | true => match self (y14, a1, y15, l, ()) with
                  | none => none
                  | some (y18, _) => some (.inl (y18, (IntKind.wrap .i64 (y15 + (1 : Int))), a2, l, (ile x17 (IntKind.wrap .i64 (y15 - a1))), y16, ()))
                | false => match self (y14, (IntKind.wrap .i64 (y15 + (1 : Int))), a2, l, ()) with
                  | none => none
                  | some (y19, _) => some (.inl (y19, a1, y15, l, (ile x17 (IntKind.wrap .i64 (a2 - y15))), y16, ()))
  | false => match partL (y7, a1, a2, p, ()) with
    | none => none
    | some (y20, y21, y22, _) => match quo? .i64 (IntKind.wrap .i64 (a2 - a1)) (8 : Int) with
      | none => none
      | some x23 => match (ilt (IntKind.wrap .i64 (y21 - a1)) (IntKind.wrap .i64 (a2 - y21))) with
        | true => match self (y20, a1, y21, l, ()) with
          | none => none
          | some (y24, _) => some (.inl (y24, (IntKind.wrap .i64 (y21 + (1 : Int))), a2, l, (ile x23 (IntKind.wrap .i64 (y21 - a1))), y22, ()))
        | false => match self (y20, (IntKind.wrap .i64 (y21 + (1 : Int))), a2, l, ()) with
          | none => none
          | some (y25, _) => some (.inl (y25, a1, y21, l, (ile x23 (IntKind.wrap .i64 (a2 - y21))), y22, ()))
def pdqEnd (self : (List (List Int) × Int × Int × Int × Unit) → Option ((List (List Int) × Unit))) (y6 : List (List Int)) (a1 a2 p h l : Int) (a4 a5 : Bool) : Option PdqOutT :=
  match a4 with
  | true => match a5 with
    | true => match (ieq h (1 : Int)) with
      | true => match partInsL (y6, a1, a2, ()) with
        | none => none
        | some (y7, y8, _) => match y8 with
          | true => some (.inr (.inl (y7, ())))
          | false => pdqTail self y7 a1 a2 p l a4 a5
      | false => pdqTail self y6 a1 a2 p l a4 a5
    | false => pdqTail self y6 a1 a2 p l a4 a5
  | false => pdqTail self y6 a1 a2 p l a4 a5
def pdqMid (self : (List (List Int) × Int × Int × Int × Unit) → Option ((List (List Int) × Unit))) (y2 : List (List Int)) (a1 a2 l : Int) (a4 a5 : Bool) : Option PdqOutT :=
  match pivotL (y2, a1, a2, ()) with
  | none => none
  | some (y3, y4, y5, _) => match (ieq y5 (2 : Int)) with
    | true => match revL (y3, a1, a2, ()) with
      | none => none
      | some (y6, _) => pdqEnd self y6 a1 a2 (IntKind.wrap .i64 ((IntKind.wrap .i64 (a2 - (1 : Int))) - (IntKind.wrap .i64 (y4 - a1)))) 1 l a4 a5
    | false => pdqEnd self y3 a1 a2 y4 y5 l a4 a5
def pdqRound (self : (List (List Int) × Int × Int × Int × Unit) → Option ((List (List Int) × Unit))) : PdqSt → Option PdqOutT := fun (a0, a1, a2, a3, a4, a5, _) =>
  match (ile (IntKind.wrap .i64 (a2 - a1)) (12 : Int)) with
  | true => match insL (a0, a1, a2, ()) with
    | none => none
    | some (y0, _) => some (.inr (.inl (y0, ())))
  | false => match (ieq a3 (0 : Int)) with
    | true => match heapL (a0, a1, a2, ()) with
      | none => none
      | some (y1, _) => some (.inr (.inl (y1, ())))
    | false => match (!a4) with
      | true => match breakL (a0, a1, a2, ()) with
        | none => none
        | some (y2, _) => pdqMid self y2 a1 a2 (IntKind.wrap .i64 (a3 - (1 : Int))) a4 a5
      | false => pdqMid self a0 a1 a2 a3 a4 a5
theorem pdqL_s0_round : pdqL_s0 = pdqRound := rfl
end
def PdqOut (d : Array EL) (a b : Nat) : PdqOutT → Prop
  | .inl (xs, x, y, l, _, _, _) => ∃ (e : Array EL) (i j : Nat), xs = (rep e) ∧ x = (i : Int) ∧ y = (j : Int) ∧ 0 ≤ l ∧ l ≤ 100 ∧ i ≤ j ∧ j ≤ e.size ∧ e.size = d.size ∧ j - i < b - a ∧ Below ltX i j e ∧
      ∀ R, PermIn i j e R → SortedIn ltX i j R → PermIn a b d R ∧ SortedIn ltX a b R
  | .inr (.inl (xs, _)) => ∃ R : Array EL, xs = (rep R) ∧ PermIn a b d R ∧ SortedIn ltX a b R
  | .inr (.inr _) => False
def PdqCalls (self : (List (List Int) × Int × Int × Int × Unit) → Option ((List (List Int) × Unit))) (m : Nat) : Prop :=
  ∀ (d : Array EL) (a b : Nat) (l : Int), a ≤ b → b ≤ d.size → d.size < 4294967296 → 0 ≤ l → l ≤ 100 → Below ltX a b d → 2 * (b - a) < m →
    ∃ R : Array EL, self ((rep d), (a : Int), (b : Int), l, ()) = some ((rep R), ()) ∧ PermIn a b d R ∧ SortedIn ltX a b R
section
variable {self : (List (List Int) × Int × Int × Int × Unit) → Option ((List (List Int) × Unit))} {d : Array EL} {a b : Nat} {l : Int}
theorem pdq_part (hself : PdqCalls self (b - a)) (hb : b ≤ d.size) (hs : d.size < 4294967296) (hl : 0 ≤ l ∧ l ≤ 100)
    {d3 : Array EL} {p : Nat} (P3 : PermIn a b d d3) (B3 : Below ltX a b d3) (hp1 : a ≤ p) (hp2 : p < b) :
    ∃ o, (match partL ((rep d3), (a : Int), (b : Int), (p : Int), ()) with
    | none => none
    | some (y20, y21, y22, _) => match quo? .i64 (IntKind.wrap .i64 ((b : Int) - (a : Int))) (8 : Int) with
      | none => none
      | some x23 => match (ilt (IntKind.wrap .i64 (y21 - (a : Int))) (IntKind.wrap .i64 ((b : Int) - y21))) with
        | true => match self (y20, (a : Int), y21, l, ()) with
          | none => none
          | some (y24, _) => some ((.inl (y24, (IntKind.wrap .i64 (y21 + (1 : Int))), (b : Int), l, (ile x23 (IntKind.wrap .i64 (y21 - (a : Int)))), y22, ())) : PdqOutT)
        | false => match self (y20, (IntKind.wrap .i64 (y21 + (1 : Int))), (b : Int), l, ()) with
          | none => none
          | some (y25, _) => some (.inl (y25, (a : Int), y21, l, (ile x23 (IntKind.wrap .i64 ((b : Int) - y21))), y22, ()))) = some o ∧ PdqOut d a b o := by
  have b3 : b ≤ d3.size := by rw [P3.1]; exact hb
  have s3 : d3.size < 4294967296 := by rw [P3.1]; exact hs
  rw [partL_val d3 a b p hp1 hp2 b3 s3]
  rcases hx : partition ltX d3 a b p with ⟨mid, ap, d4⟩
  obtain ⟨g1, g2, hs4, hBa, hBr, hleft, hright⟩ := round_part swoX (partition_holds _) hp1 hp2 b3 B3 hx
  simp (disch := omega) only [wrap_sub, wrap_add1, quo_8, ilt_nat]
  have b4 : b ≤ d4.size := by omega
  by_cases h : mid - a < b - mid
  · obtain ⟨L, e, l1, l2⟩ := hself d4 a mid l g1 (by omega) (by omega) hl.1 hl.2 hBa (by omega)
    simp only [h, decide_true, e]
    obtain ⟨hBL, hfin⟩ := hleft _ l1 l2
    refine ⟨_, rfl, L, mid + 1, b, rfl, rfl, rfl, hl.1, hl.2, by omega, by rw [l1.1]; exact b4, by rw [l1.1, hs4, P3.1], by omega, hBL, fun R r1 r2 => ?_⟩
    obtain ⟨q1, q2⟩ := hfin R r1 r2
    exact ⟨permIn_trans _ _ _ a b P3 q1, q2⟩
  · obtain ⟨L, e, l1, l2⟩ := hself d4 (mid + 1) b l (by omega) (by omega) (by omega) hl.1 hl.2 hBr (by omega)
    simp only [h, decide_false, e]
    obtain ⟨hBL, hfin⟩ := hright _ l1 l2
    refine ⟨_, rfl, L, a, mid, rfl, rfl, rfl, hl.1, hl.2, by omega, by rw [l1.1]; omega, by rw [l1.1, hs4, P3.1], by omega, hBL, fun R r1 r2 => ?_⟩
    obtain ⟨q1, q2⟩ := hfin R r1 r2
    exact ⟨permIn_trans _ _ _ a b P3 q1, q2⟩
theorem pdq_tail (hself : PdqCalls self (b - a)) (hb : b ≤ d.size) (hs : d.size < 4294967296) (hl : 0 ≤ l ∧ l ≤ 100)
    {d3 : Array EL} {p : Nat} (wb wp : Bool) (P3 : PermIn a b d d3) (B3 : Below ltX a b d3) (hp1 : a ≤ p) (hp2 : p < b) :
    ∃ o, pdqTail self (rep d3) (a : Int) (b : Int) (p : Int) l wb wp = some o ∧ PdqOut d a b o := by
  have b3 : b ≤ d3.size := by rw [P3.1]; exact hb
  have s3 : d3.size < 4294967296 := by rw [P3.1]; exact hs
  rw [pdqTail, ilt_eq]
  by_cases h0 : 0 < a
  · rw [decide_eq_true (by omega)]
    have i0 : a - 1 < d3.size := by omega
    have i1 : p < d3.size := by omega
    simp (disch := omega) only [wrap_sub1, idx_at, dget_at, less_val, less_lt]
    cases hc : ltX d3[a - 1]! d3[p]!
    · simp only [Bool.not_false]
      rw [partEqL_val d3 a b p hp1 hp2 b3 s3]
      rcases hx : partitionEqual ltX d3 a b p with ⟨mid, d4⟩
      obtain ⟨hm1, hm2, hs4, hB4, hfin⟩ := round_eq swoX (partitionEqual_holds _) h0 hp1 hp2 b3 B3 hc hx
      refine ⟨_, rfl, d4, mid, b, rfl, rfl, rfl, hl.1, hl.2, by omega, by omega, by rw [hs4, P3.1], by omega, hB4, fun R r1 r2 => ?_⟩
      obtain ⟨q1, q2⟩ := hfin R r1 r2
      exact ⟨permIn_trans _ _ _ a b P3 q1, q2⟩
    · simp only [Bool.not_true]
      exact pdq_part hself hb hs hl P3 B3 hp1 hp2
  · rw [decide_eq_false (by omega)]
    exact pdq_part hself hb hs hl P3 B3 hp1 hp2
theorem pdq_end (hself : PdqCalls self (b - a)) (hab : a < b) (hb : b ≤ d.size) (hs : d.size < 4294967296) (hl : 0 ≤ l ∧ l ≤ 100)
    {d3 : Array EL} {p : Nat} (h : Int) (wb wp : Bool) (P3 : PermIn a b d d3) (B3 : Below ltX a b d3) (hp1 : a ≤ p) (hp2 : p < b) :
    ∃ o, pdqEnd self (rep d3) (a : Int) (b : Int) (p : Int) h l wb wp = some o ∧ PdqOut d a b o := by
  have b3 : b ≤ d3.size := by rw [P3.1]; exact hb
  have s3 : d3.size < 4294967296 := by rw [P3.1]; exact hs
  unfold pdqEnd
  cases wb
  · exact pdq_tail hself hb hs hl _ _ P3 B3 hp1 hp2
  · cases wp
    · exact pdq_tail hself hb hs hl _ _ P3 B3 hp1 hp2
    · simp only []
      cases ieq h 1
      · exact pdq_tail hself hb hs hl _ _ P3 B3 hp1 hp2
      · simp only []
        rw [partInsL_val d3 a b hab b3 s3]
        obtain ⟨q1, q2⟩ := partialInsertionSort_holds (lt := ltX) swoX d3 a b hab b3 B3
        rcases hx : partialInsertionSort ltX d3 a b with ⟨d4, fin⟩
        rw [hx] at q1 q2
        have P4 : PermIn a b d d4 := permIn_trans _ _ _ a b P3 q1
        cases fin
        · exact pdq_tail hself hb hs hl _ _ P4 (B3.perm b3 q1) hp1 hp2
        · exact ⟨_, rfl, d4, rfl, P4, q2 rfl⟩
theorem pdq_mid (hself : PdqCalls self (b - a)) (hab : a + 8 ≤ b) (hb : b ≤ d.size) (hs : d.size < 4294967296) (hl : 0 ≤ l ∧ l ≤ 100)
    {d3 : Array EL} (wb wp : Bool) (P3 : PermIn a b d d3) (B3 : Below ltX a b d3) :
    ∃ o, pdqMid self (rep d3) (a : Int) (b : Int) l wb wp = some o ∧ PdqOut d a b o := by
  have b3 : b ≤ d3.size := by rw [P3.1]; exact hb
  have s3 : d3.size < 4294967296 := by rw [P3.1]; exact hs
  rw [pdqMid]
  obtain ⟨p, h, e, hp1, hp2⟩ := pivotL_val d3 a b hab b3 s3
  simp only [e]
  cases ieq h 2
  · exact pdq_end hself (by omega) hb hs hl h _ _ P3 B3 hp1 hp2
  · simp only [revL_val d3 a b (by omega) b3 s3]
    have q1 := reverseRange_holds (α := EL) d3 a b (by omega) b3
    simp (disch := omega) only [wrap_sub1, wrap_sub]
    exact pdq_end hself (by omega) hb hs hl 1 _ _ (permIn_trans _ _ _ a b P3 q1) (B3.perm b3 q1) (by omega) (by omega)
theorem pdq_round (hself : PdqCalls self (b - a)) (hab : a ≤ b) (hb : b ≤ d.size) (hs : d.size < 4294967296) (hl : 0 ≤ l ∧ l ≤ 100) (wb wp : Bool) (B : Below ltX a b d) :
    ∃ o, pdqL_s0 self ((rep d), (a : Int), (b : Int), l, wb, wp, ()) = some o ∧ PdqOut d a b o := by
  rw [pdqL_s0_round, pdqRound]
  simp (disch := omega) only [wrap_sub, ile_eq, ieq_eq]
  by_cases h12 : b - a ≤ 12
  · rw [decide_eq_true (show ((b - a : Nat) : Int) ≤ 12 by omega)]
    simp only [insL_val d a b hab hb hs]
    obtain ⟨q1, q2⟩ := insertionSort_holds (lt := ltX) swoX d a b hab hb
    exact ⟨_, rfl, _, rfl, q1, q2⟩
  · rw [decide_eq_false (show ¬ ((b - a : Nat) : Int) ≤ 12 by omega)]
    simp only []
    by_cases h0 : l = 0
    · subst h0
      simp only [BEq.rfl, heapL_val d a b (by omega) hb hs]
      obtain ⟨q1, q2⟩ := heapSort_holds (lt := ltX) swoX d a b hab hb
      exact ⟨_, rfl, _, rfl, q1, q2⟩
    · rw [show (l == 0) = false by simpa using h0]
      simp only []
      cases wb
      · obtain ⟨d', e, q1⟩ := breakL_val d a b hab hb hs
        simp only [Bool.not_false, e]
        rw [wrap_in (by omega)]
        exact pdq_mid hself (by omega) hb hs (by omega) _ _ q1 (B.perm hb q1)
      · simp only [Bool.not_true]
        exact pdq_mid hself (by omega) hb hs hl _ _ (permIn_refl d a b) B
end
theorem pdq_loop {self : (List (List Int) × Int × Int × Int × Unit) → Option ((List (List Int) × Unit))} {m : Nat} (hself : PdqCalls self m) : ∀ (k : Nat) (d : Array EL) (a b : Nat) (l : Int) (wb wp : Bool) (n : Nat), b - a = k → k ≤ m → a ≤ b → b ≤ d.size → d.size < 4294967296 → 0 ≤ l → l ≤ 100 → Below ltX a b d → k < n →
    ∃ R : Array EL, iterO (pdqL_s0 self) n ((rep d), (a : Int), (b : Int), l, wb, wp, ()) = some (.inl ((rep R), ())) ∧ PermIn a b d R ∧ SortedIn ltX a b R := by
  intro k
  induction k using Nat.strongRecOn with
  | _ k ih =>
  intro d a b l wb wp n hk hm hab hb hs hl1 hl2 B hn
  obtain ⟨n, rfl⟩ : ∃ k, n = k + 1 := ⟨n - 1, by omega⟩
  have hself' : PdqCalls self (b - a) := fun d a' b' l h1 h2 h3 h4 h5 h6 h7 => hself d a' b' l h1 h2 h3 h4 h5 h6 (by omega)
  obtain ⟨o, e, ho⟩ := pdq_round hself' hab hb hs ⟨hl1, hl2⟩ wb wp B
  rw [iterO, e]
  match o, ho with
  | .inl (xs, x, y, l', wb', wp', _), ho =>
    obtain ⟨e', i, j, rfl, rfl, rfl, g1, g2, g3, g4, g5, g6, g7, hfin⟩ := ho
    obtain ⟨R, e2, r1, r2⟩ := ih (j - i) (by omega) e' i j l' wb' wp' n rfl (by omega) g3 g4 (by omega) g1 g2 g7 (by omega)
    exact ⟨R, e2, hfin R r1 r2⟩
  | .inr (.inl (xs, _)), ho =>
    obtain ⟨R, rfl, r1, r2⟩ := ho
    exact ⟨R, rfl, r1, r2⟩
theorem pdq_calls : ∀ k : Nat, PdqCalls (pdqL_f (k + 1)) (2 ^ k) := by
  intro k
  have hmany : 4294967296 < many := by simp only [many]; omega
  induction k with
  | zero =>
    intro d a b l h1 h2 h3 h4 h5 h6 h7
    have : PdqCalls (pdqL_f 0) 0 := fun _ _ _ _ _ _ _ _ _ _ h => by omega
    obtain ⟨R, e, r1, r2⟩ := pdq_loop this (b - a) d a b l true true many rfl (by omega) h1 h2 h3 h4 h5 h6 (by omega)
    refine ⟨R, ?_, r1, r2⟩
    rw [pdqL_f, pdqL_d]
    simp only [iterL_eq, e]
  | succ k ih =>
    intro d a b l h1 h2 h3 h4 h5 h6 h7
    have hp : 2 ^ (k + 1) = 2 * 2 ^ k := by rw [Nat.pow_succ]; omega
    obtain ⟨R, e, r1, r2⟩ := pdq_loop ih (b - a) d a b l true true many rfl (by omega) h1 h2 h3 h4 h5 h6 (by omega)
    refine ⟨R, ?_, r1, r2⟩
    rw [pdqL_f, pdqL_d]
    simp only [iterL_eq, e]
theorem sort_val (xs : List (List Int)) (h : xs.length < 4294967296) (hok : ∀ x ∈ xs, ok x) : ∃ ys, sortL (xs, ()) = some (ys, ()) ∧ ys.Perm xs ∧ ys.Pairwise fun x y => lt y x = false := by
  obtain ⟨d, rfl⟩ : ∃ d : Array EL, xs = rep d := by
    refine ⟨(xs.attach.map fun x => ⟨x.val, hok x.val x.property⟩).toArray, ?_⟩
    simp [rep]
  have hl : (rep d).length = d.size := by simp [rep]
  rw [hl] at h
  rw [sortL_eq, sortL_d]
  rw [dlen_at, u64_in (by omega)]
  obtain ⟨v, e, hv, _⟩ := bitsLen_val d.size h
  simp only [e]
  obtain ⟨R, e2, r1, r2⟩ := pdq_calls 99 d 0 d.size (v : Int) (by omega) (by omega) h (by omega) (by omega) (.inl rfl) (by
    have : 2 ^ 99 = 633825300114114700748351602688 := by decide
    omega)
  have e3 : pdqL (rep d, (0 : Int), (d.size : Int), (v : Int), ()) = some (rep R, ()) := by rw [pdqL_eq]; exact e2
  refine ⟨rep R, by simp only [e3], ?_, ?_⟩
  · obtain ⟨hsz, _, hp⟩ := r1
    have e1 : R.extract 0 d.size = R := by rw [← hsz]; exact Array.extract_size
    rw [e1, Array.extract_size] at hp
    exact hp.map _
  · rw [rep, List.pairwise_map, List.pairwise_iff_getElem]
    intro i j hi hj hij
    have hi' : i < R.size := by simpa using hi
    have hj' : j < R.size := by simpa using hj
    have := r2 i j (Nat.zero_le _) hij (by rw [← r1.1]; omega)
    rw [getElem!_pos R j hj', getElem!_pos R i hi'] at this
    simpa [ltX] using this
end Go.Pev.Pl.SL
end
section
namespace Go.Pev.Pl
open Tok
def dropAt {α : Type} (P : Nat → Bool) : Nat → List α → List α
  | _, [] => []
  | i, x :: xs => if P i then dropAt P (i + 1) xs else x :: dropAt P (i + 1) xs
theorem dropAt_none {α : Type} (P : Nat → Bool) : ∀ (xs : List α) (s : Nat), (∀ k, s ≤ k → P k = false) → dropAt P s xs = xs := by
  intro xs
  induction xs with
  | nil => intro s _; rfl
  | cons x xs ih =>
    intro s h
    rw [dropAt, h s (Nat.le_refl _), ih (s + 1) fun k hk => h k (by omega)]
    rfl
theorem dropAt_one {α : Type} (P : Nat → Bool) (i : Nat) : ∀ (xs : List α) (s : Nat), s ≤ i → (∀ k, s ≤ k → P k = decide (k = i)) → dropAt P s xs = xs.eraseIdx (i - s) := by
  intro xs
  induction xs with
  | nil => intro s _ _; rfl
  | cons x xs ih =>
    intro s hs h
    rw [dropAt, h s (Nat.le_refl _)]
    by_cases e : s = i
    · subst e
      rw [dropAt_none P xs (s + 1) fun k hk => by rw [h k (by omega)]; simp; omega]
      simp
    · rw [ih (s + 1) (by omega) fun k hk => h k (by omega)]
      rw [decide_eq_false e, if_neg (by simp), show i - s = (i - (s + 1)) + 1 by omega, List.eraseIdx_cons_succ]
theorem dropAt_two {α : Type} (P : Nat → Bool) (i j : Nat) (hij : i < j) : ∀ (xs : List α) (s : Nat), s ≤ i → (∀ k, s ≤ k → P k = decide (k = i ∨ k = j)) → dropAt P s xs = (xs.eraseIdx (j - s)).eraseIdx (i - s) := by
  intro xs
  induction xs with
  | nil => intro s _ _; rfl
  | cons x xs ih =>
    intro s hs h
    rw [dropAt, h s (Nat.le_refl _)]
    by_cases e : s = i
    · subst e
      rw [dropAt_one P j xs (s + 1) (by omega) fun k hk => by rw [h k (by omega)]; exact decide_eq_decide.2 ⟨fun q => by omega, fun q => .inr q⟩]
      rw [decide_eq_true (.inl rfl), if_pos rfl, show j - s = (j - (s + 1)) + 1 by omega, List.eraseIdx_cons_succ, Nat.sub_self, List.eraseIdx_zero]
      rfl
    · rw [ih (s + 1) (by omega) fun k hk => h k (by omega)]
      rw [decide_eq_false (by omega), if_neg (by simp), show j - s = (j - (s + 1)) + 1 by omega, List.eraseIdx_cons_succ, show i - s = (i - (s + 1)) + 1 by omega, List.eraseIdx_cons_succ]
theorem dropAt_fold {α : Type} (P : Nat → Bool) : ∀ (xs : List α) (acc : List α) (k : Nat), (xs.foldl (fun (a : List α × Nat) x => (if P a.2 then a.1 else a.1 ++ [x], a.2 + 1)) (acc, k)).1 = acc ++ dropAt P k xs := by
  intro xs
  induction xs with
  | nil => intro acc k; simp [dropAt]
  | cons x xs ih =>
    intro acc k
    rw [List.foldl_cons, ih, dropAt]
    cases P k <;> simp
theorem dropAt_len {α : Type} (P : Nat → Bool) : ∀ (xs : List α) (k : Nat), (dropAt P k xs).length ≤ xs.length ∧ ∀ x ∈ dropAt P k xs, x ∈ xs := by
  intro xs
  induction xs with
  | nil => intro k; simp [dropAt]
  | cons x xs ih =>
    intro k
    obtain ⟨h1, h2⟩ := ih (k + 1)
    rw [dropAt]
    split
    · exact ⟨by simp only [List.length_cons]; omega, fun y hy => List.mem_cons_of_mem _ (h2 y hy)⟩
    · refine ⟨by simp only [List.length_cons]; omega, fun y hy => ?_⟩
      rcases List.mem_cons.1 hy with rfl | hy
      · simp
      · exact List.mem_cons_of_mem _ (h2 y hy)
theorem twith_val (n : Int) (rings : List (List Int)) (away : List Int) (come : List (List Int)) (hlen : rings.length < 1073741824) (ha : away.length < 1073741824) (hc : come.length < 1073741824)
    (hne : ∀ l ∈ rings, l ≠ []) (hce : ∀ r ∈ come, plain r ≠ []) :
    ∃ ys, twith ((n, (rings, ())), away, come, ()) = some (n, ys, ()) ∧ ys.Perm (dropAt (fun k => decide ((k : Int) ∈ away)) 0 rings ++ come.map plain) ∧ ys.Pairwise (fun a b => ¬ hd b < hd a) := by
  rw [twith_eq, twith_d]
  have e := walkL (step := twith_s0) (fun i (a : List (List Int) × Nat) => (away, come, n, rings, (0 : Int), a.1, rings, dlen rings, (i : Int), ())) rings
    (fun x a => .inl (if decide ((a.2 : Int) ∈ away) then a.1 else a.1 ++ [x], a.2 + 1)) (fun a => .inl (come, n, rings, (0 : Int), a.1, ())) (fun i a => a.2 = i ∧ a.1.length ≤ i) (by omega)
    (fun i x a hi hx ⟨h1, h2⟩ => by
      refine ⟨fun m' h' => ?_, fun r h' => by cases h'⟩
      cases h'
      subst h1
      rw [twith_s0, dlen_l, ilt_nat, decide_eq_true hi]
      simp only [idx_some hx, containsI_val away _ (show away.length < 9223372036854775808 by omega)]
      rw [wrap_add1 (by omega), fits_l (by simp only [dlen_l, List.length_cons, List.length_nil]; omega)]
      by_cases h : (a.2 : Int) ∈ away
      · simp only [h, decide_true, Bool.not_true, if_true]
        exact ⟨by trivial, by trivial, by omega⟩
      · simp only [h, decide_false, Bool.not_false]
        exact ⟨by trivial, by trivial, by simp; omega⟩)
    (fun a _ => by rw [twith_s0, dlen_l, ilt_nat, decide_eq_false (by omega)]) ([], 0) ⟨rfl, by simp⟩
  have e' : iterL twith_s0 many (away, come, n, rings, (0 : Int), [], rings, dlen rings, (0 : Int), ()) = _ := e
  rw [e', walk_fold]
  have hdf : (rings.foldl (fun (a : List (List Int) × Nat) x => (if decide ((a.2 : Int) ∈ away) then a.1 else a.1 ++ [x], a.2 + 1)) ([], 0)).1 = dropAt (fun k => decide ((k : Int) ∈ away)) 0 rings := by
    have := dropAt_fold (fun k => decide ((k : Int) ∈ away)) rings [] 0
    rw [List.nil_append] at this
    exact this
  simp only [hdf]
  obtain ⟨g1, g2⟩ := dropAt_len (fun k => decide ((k : Int) ∈ away)) rings 0
  generalize dropAt (fun k => decide ((k : Int) ∈ away)) 0 rings = rest at *
  have f := walkL (step := twith_s1) (fun i (a : List (List Int)) => (n, rings, (0 : Int), a, come, dlen come, (i : Int), ())) come
    (fun x a => .inl (a ++ [plain x])) (fun a => .inl (n, rings, (0 : Int), a, ())) (fun i a => a.length = rest.length + i) (by omega)
    (fun i x a hi hx h1 => by
      refine ⟨fun m' h' => ?_, fun r h' => by cases h'⟩
      cases h'
      rw [twith_s1, dlen_l, ilt_nat, decide_eq_true hi]
      simp only [idx_some hx, rplain_val]
      rw [wrap_add1 (by omega), fits_l (by simp only [dlen_l, List.length_cons, List.length_nil]; omega)]
      exact ⟨rfl, by simp; omega⟩)
    (fun a _ => by rw [twith_s1, dlen_l, ilt_nat, decide_eq_false (by omega)]) rest rfl
  have f' : iterL twith_s1 many (n, rings, (0 : Int), rest, come, dlen come, (0 : Int), ()) = _ := f
  rw [f', walk_fold]
  have hfold : ∀ (l acc : List (List Int)), l.foldl (fun a x => a ++ [plain x]) acc = acc ++ l.map plain := by
    intro l
    induction l with
    | nil => intro acc; simp
    | cons x l ih => intro acc; rw [List.foldl_cons, ih]; simp
  simp only [hfold]
  obtain ⟨ys, y1, y2, y3⟩ := SL.sort_val (rest ++ come.map plain) (by simp; omega) (fun x hx => by
    rcases List.mem_append.1 hx with h | h
    · exact hne x (g2 x h)
    · obtain ⟨r, hr, rfl⟩ := List.mem_map.1 h
      exact hce r hr)
  refine ⟨ys, by simp only [y1], y2, y3.imp fun {a b} h => ?_⟩
  simp only [SL.lt, Go.Sort.ltInt, decide_eq_false_iff_not] at h
  exact h
def putL (rest : List (List Int)) (p : List Int) : List (List Int) := rest.take (rest.findIdx fun x => !decide (hd x < hd p)) ++ p :: rest.drop (rest.findIdx fun x => !decide (hd x < hd p))
theorem putL_perm (rest : List (List Int)) (p : List Int) : (putL rest p).Perm (p :: rest) := by
  rw [putL]
  refine List.perm_middle.trans ?_
  rw [List.take_append_drop]
theorem putL_up {rest : List (List Int)} {p : List Int} (h : rest.Pairwise (fun a b => hd a < hd b)) (hne : ∀ x ∈ rest, hd x ≠ hd p) : (putL rest p).Pairwise (fun a b => hd a < hd b) := by
  rw [putL]
  have hlt : ∀ x ∈ rest.take (rest.findIdx fun x => !decide (hd x < hd p)), hd x < hd p := by
    intro x hx
    obtain ⟨j, hj, e⟩ := List.mem_take_iff_getElem.1 hx
    have := List.not_of_lt_findIdx (p := fun x => !decide (hd x < hd p)) (xs := rest) (i := j) (by omega)
    rw [e] at this
    simpa using this
  have hgt : ∀ x ∈ rest.drop (rest.findIdx fun x => !decide (hd x < hd p)), hd p < hd x := by
    intro x hx
    by_cases hk : (rest.findIdx fun x => !decide (hd x < hd p)) < rest.length
    · have h0 := List.findIdx_getElem (p := fun x => !decide (hd x < hd p)) (xs := rest) (w := hk)
      rw [List.drop_eq_getElem_cons hk] at hx
      have h1 : ¬ hd rest[rest.findIdx fun x => !decide (hd x < hd p)] < hd p := by simpa using h0
      have h2 := hne _ (List.getElem_mem hk)
      rcases List.mem_cons.1 hx with rfl | hx
      · omega
      · have hpw : (rest.drop (rest.findIdx fun x => !decide (hd x < hd p))).Pairwise (fun a b => hd a < hd b) := h.sublist (List.drop_sublist _ _)
        rw [List.drop_eq_getElem_cons hk, List.pairwise_cons] at hpw
        have := hpw.1 x hx
        omega
    · rw [List.drop_of_length_le (by omega)] at hx
      cases hx
  rw [List.pairwise_append, List.pairwise_cons]
  refine ⟨h.sublist (List.take_sublist _ _), ⟨hgt, h.sublist (List.drop_sublist _ _)⟩, fun a ha b hb => ?_⟩
  rcases List.mem_cons.1 hb with rfl | hb
  · exact hlt a ha
  · have := hlt a ha
    have := hgt b hb
    omega
end Go.Pev.Pl
end
section
namespace Go.Pev.Pl
open Tok
theorem arc_ge {n u v : Int} (h : okT n (.arc u v)) : n ≤ arcT n u v := by rw [arcT_enc h]; exact (enc_arc h.1 h.2.1).1
def linkAll (n : Int) (A B : List Int) (u v : Int) : List Int := u :: arcT n u v :: (rotAt B v ++ arcT n v u :: (rotAt A u).tail)
theorem link_ring {n u v : Int} {A B : List Int} (hA : TI n A) (hB : TI n B) (hu : u ∈ A) (hv : v ∈ B) (iu : In n u) (iv : In n v) (hd : Dis n A B) :
    TI n (linkAll n A B u v) ∧ rotAt A u = u :: (rotAt A u).tail ∧ (∀ t, t < n → (t ∈ linkAll n A B u v ↔ t ∈ A ∨ t ∈ B)) ∧ u ≠ v ∧ okT n (.arc u v) := by
  obtain ⟨a, a1, a2, a3⟩ := TI_rotAt hA (t := .ver u) iu hu
  obtain ⟨b, b1, b2, b3⟩ := TI_rotAt hB (t := .ver v) iv hv
  have a1' : rotAt A u = (Tok.ver u :: a).map (encT n) := a1
  have b1' : rotAt B v = (Tok.ver v :: b).map (encT n) := b1
  have huv : u ≠ v := by rintro rfl; exact hd u hu iu.2.2.2 hv
  have ho : okT n (.arc u v) := ⟨iu, iv, huv⟩
  have pA := (rotAt_irot hu).perm
  have pB := (rotAt_irot hv).perm
  have ht : rotAt A u = u :: (rotAt A u).tail := by rw [a1']; rfl
  have hall : linkAll n A B u v = (Tok.ver u :: .arc u v :: (.ver v :: b ++ .arc v u :: a)).map (encT n) := by
    rw [linkAll, a1', b1', arcT_enc ho, arcT_enc (okT_swap ho)]
    simp [encT]
  refine ⟨⟨_, hall, fun t ht => ?_, T.join a2 b2 fun x hx hx2 => ?_⟩, ht, fun t ht2 => ?_, huv, ho⟩
  · rcases List.mem_cons.1 ht with rfl | ht
    · exact iu
    · rcases List.mem_cons.1 ht with rfl | ht
      · exact ho
      · rcases List.mem_append.1 ht with ht | ht
        · exact b3 t ht
        · rcases List.mem_cons.1 ht with rfl | ht
          · exact okT_swap ho
          · exact a3 t (List.mem_cons_of_mem _ ht)
  · have ix := a3 _ hx
    have x1 : x ∈ A := pA.mem_iff.2 (by rw [a1']; exact List.mem_map.2 ⟨_, hx, rfl⟩)
    have x2 : x ∈ B := pB.mem_iff.2 (by rw [b1']; exact List.mem_map.2 ⟨_, hx2, rfl⟩)
    exact hd x x1 ix.2.2.2 x2
  · have g1 := arc_ge ho
    have g2 := arc_ge (okT_swap ho)
    have e1 : t ∈ A ↔ t = u ∨ t ∈ (rotAt A u).tail := by rw [pA.mem_iff, ht, List.mem_cons, List.tail_cons]
    rw [linkAll, List.mem_cons, List.mem_cons, List.mem_append, List.mem_cons, e1, ← pB.mem_iff]
    constructor
    · rintro (h | h | h | h | h)
      · exact .inl (.inl h)
      · omega
      · exact .inr h
      · omega
      · exact .inl (.inr h)
    · rintro ((h | h) | h)
      · exact .inl h
      · exact .inr (.inr (.inr (.inr h)))
      · exact .inr (.inr (.inl h))
theorem dis_perm {n : Int} {a b : List (List Int)} (h : a.Perm b) (ha : a.Pairwise (Dis n)) : b.Pairwise (Dis n) := (h.pairwise_iff fun {_ _} hh => hh.symm).1 ha
theorem FR_link {n : Int} {rings rest zs : List (List Int)} {A B p : List Int} (h : FR n rings) (hp : rings.Perm (A :: B :: rest)) (hg : RG n p) (hm : ∀ t, t < n → (t ∈ p ↔ t ∈ A ∨ t ∈ B)) (hz : zs.Perm (p :: rest)) (hu : zs.Pairwise (fun a b => hd a < hd b)) : FR n zs := by
  have hd0 := dis_perm hp h.dis
  rw [List.pairwise_cons, List.pairwise_cons] at hd0
  obtain ⟨h1, h2, h3⟩ := hd0
  refine ⟨h.sz, fun l hl => ?_, hu, dis_perm hz.symm ?_, fun v hv => ?_⟩
  · rcases List.mem_cons.1 (hz.mem_iff.1 hl) with rfl | hl
    · exact hg
    · exact h.rg l (hp.mem_iff.2 (by simp [hl]))
  · rw [List.pairwise_cons]
    refine ⟨fun r hr t ht htn => ?_, h3⟩
    rcases (hm t htn).1 ht with g | g
    · exact h1 r (by simp [hr]) t g htn
    · exact h2 r hr t g htn
  · obtain ⟨l, hl, hvl⟩ := h.cov v hv
    have := hp.mem_iff.1 hl
    simp only [List.mem_cons] at this
    rcases this with rfl | rfl | g
    · exact ⟨p, hz.mem_iff.2 (by simp), (hm v hv.2.2.2).2 (.inl hvl)⟩
    · exact ⟨p, hz.mem_iff.2 (by simp), (hm v hv.2.2.2).2 (.inr hvl)⟩
    · exact ⟨l, hz.mem_iff.2 (by simp [g]), hvl⟩
theorem asked_val (n : Int) (rings : List (List Int)) (u v : Int) (hD : Dom rings) : asked ((n, (rings, ())), u, v, ()) = some (if RF n rings then if In n u ∧ In n v then 0 else 10 else 1, ()) := by
  rw [asked_eq, asked_d]
  simp only [tright_val n rings hD.1 hD.2, tin_val]
  by_cases h : RF n rings
  · by_cases h1 : In n u
    · by_cases h2 : In n v <;> simp [h, h1, h2]
    · simp [h, h1]
  · simp [h]
theorem link_ok {n : Int} {rings : List (List Int)} {u v : Int} {i j : Nat} {A B : List Int} (h : FR n rings) (iu : In n u) (iv : In n v) (hi : rings[i]? = some A) (hj : rings[j]? = some B) (hu : u ∈ A) (hv : v ∈ B) (hij : i ≠ j) :
    ∃ zs rest, tlink ((n, (rings, ())), u, v, ()) = some (n, zs, 0, ()) ∧ FR n zs ∧ rings.Perm (A :: B :: rest) ∧ zs.Perm (plain (linkAll n A B u v) :: rest) ∧ Dis n A B := by
  have hD := h.dom
  have hRF := RF_iff.2 h
  have rA := h.rg A (List.mem_of_getElem? hi)
  have rB := h.rg B (List.mem_of_getElem? hj)
  have hil := (List.getElem?_eq_some_iff.1 hi).1
  have hjl := (List.getElem?_eq_some_iff.1 hj).1
  have pu : plc rings u = (i : Int) := h.plc_eq hi iu.2.2.2 hu
  have pv : plc rings v = (j : Int) := h.plc_eq hj iv.2.2.2 hv
  have hperm : rings.Perm (A :: B :: (rings.eraseIdx (max i j)).eraseIdx (min i j)) := by
    rcases Nat.lt_or_gt_of_ne hij with g | g
    · rw [Nat.max_eq_right (by omega), Nat.min_eq_left (by omega)]
      exact erase2_perm g hi hj
    · rw [Nat.max_eq_left (by omega), Nat.min_eq_right (by omega)]
      exact (erase2_perm g hj hi).trans (List.Perm.swap _ _ _)
  have hdis : Dis n A B := by
    have := dis_perm hperm h.dis
    rw [List.pairwise_cons] at this
    exact this.1 B (by simp)
  obtain ⟨l1, l2, l3, huv, ho⟩ := link_ring rA.2.2.2 rB.2.2.2 hu hv iu iv hdis
  obtain ⟨hRG, hrot⟩ := RG_plain l1
  have hall : linkAll n A B u v = u :: arcT n u v :: (rotAt B v ++ arcT n v u :: (rotAt A u).tail) := rfl
  have lA : (rotAt A u).length ≤ 1000 := by rw [← (rotAt_irot hu).perm.length_eq]; exact rA.1.1
  have lB : (rotAt B v).length ≤ 1000 := by rw [← (rotAt_irot hv).perm.length_eq]; exact rB.1.1
  have hsub : ((rings.eraseIdx (max i j)).eraseIdx (min i j)).Sublist rings := (List.eraseIdx_sublist _ _).trans (List.eraseIdx_sublist _ _)
  have hdrop : dropAt (fun k => decide ((k : Int) ∈ [(i : Int), (j : Int)])) 0 rings = (rings.eraseIdx (max i j)).eraseIdx (min i j) := by
    rcases Nat.lt_or_gt_of_ne hij with g | g
    · rw [Nat.max_eq_right (by omega), Nat.min_eq_left (by omega)]
      exact dropAt_two _ i j g rings 0 (by omega) fun k _ => decide_eq_decide.2 (by simp only [List.mem_cons, List.not_mem_nil, or_false]; omega)
    · rw [Nat.max_eq_left (by omega), Nat.min_eq_right (by omega)]
      exact dropAt_two _ j i g rings 0 (by omega) fun k _ => decide_eq_decide.2 (by simp only [List.mem_cons, List.not_mem_nil, or_false]; omega)
  have hrl : ((rings.eraseIdx (max i j)).eraseIdx (min i j)).length ≤ rings.length := hsub.length_le
  generalize (rings.eraseIdx (max i j)).eraseIdx (min i j) = rest at *
  have hupr : rest.Pairwise (fun a b => hd a < hd b) := h.up.sublist hsub
  have hner : ∀ l ∈ rest, l ≠ [] := fun l hl => (h.rg l (hsub.subset hl)).2.1
  have hdd := dis_perm hperm h.dis
  rw [List.pairwise_cons, List.pairwise_cons] at hdd
  have hheads : ∀ x ∈ rest, hd x ≠ hd (plain (linkAll n A B u v)) := by
    intro x hx e
    have g1 := RG_head hRG
    have g2 := (l3 _ g1.2.2.2).1 (hrot.perm.mem_iff.2 (hd_mem hRG.2.1))
    have g3 : hd (plain (linkAll n A B u v)) ∈ x := e ▸ hd_mem (hner x hx)
    rcases g2 with g | g
    · exact hdd.1 x (by simp [hx]) _ g g1.2.2.2 g3
    · exact hdd.2.1 x hx _ g g1.2.2.2 g3
  have hup := putL_up hupr hheads
  have hpz := putL_perm rest (plain (linkAll n A B u v))
  refine ⟨putL rest (plain (linkAll n A B u v)), rest, ?_, FR_link h hperm hRG (fun t ht => by rw [← hrot.perm.mem_iff]; exact l3 t ht) hpz hup, hperm, hpz, hdis⟩
  · obtain ⟨ys, y1, y2, y3⟩ := twith_val n rings [(i : Int), (j : Int)] [linkAll n A B u v] hD.1 (by simp) (by simp) (fun l hl => (h.rg l hl).2.1) (by simp; exact hRG.2.1)
    have hys : ys = putL rest (plain (linkAll n A B u v)) := by
      refine sorted_same hup (y2.trans ?_) y3
      rw [hdrop]
      exact (List.perm_append_comm (l₁ := rest) (l₂ := [plain (linkAll n A B u v)])).trans hpz.symm
    rw [hys] at y1
    rw [tlink_eq, tlink_d]
    have s1 : subl (rotAt A u) (0 : Int) (1 : Int) = some [u] := by
      have := subl_l (xs := rotAt A u) (l := 0) (h := 1) (by omega) (by rw [l2]; simp)
      rw [l2] at this ⊢
      exact this
    have s2 : subl (rotAt A u) (1 : Int) (dlen (rotAt A u)) = some (rotAt A u).tail := by
      have := subl_end (xs := rotAt A u) (l := 1) (by rw [l2]; simp)
      rw [List.drop_one] at this
      exact this
    have d1 : dcut 0 (dnat (dlen [u])) (rotAt A u) = [u] := by rw [l2]; rfl
    have d2 : dcut 1 (dnat (dlen (rotAt A u).tail)) (rotAt A u) = (rotAt A u).tail := by
      rw [dcut, dlen_l, dnat_l, List.drop_one, List.take_length]
    have hcat : concatI ([[u], [arcT n u v], rotAt B v, [arcT n v u], (rotAt A u).tail], ()) = some (linkAll n A B u v, ()) := by
      rw [concatI_val _ (by simp) (by simp; omega)]
      simp [linkAll]
    have ne : ((i : Int)) ≠ (j : Int) := by omega
    simp only [asked_val n rings u v hD, hRF, iu, iv, and_self, if_true, ieq_dec, tplace_val n rings _ hD.1 (fun l hl => (hD.2 l hl).1), pu, pv, ne, decide_true, decide_false, Bool.not_true, idx_some hi, idx_some hj, rfrom_val, fromOut, rA.1, rB.1, hu, hv, s1, s2, tarc_val, d1, d2, hcat, y1]
theorem link_there {n : Int} {rings : List (List Int)} {u v : Int} (h : FR n rings) (iu : In n u) (iv : In n v) (hp : plc rings u = plc rings v) :
    tlink ((n, (rings, ())), u, v, ()) = some (n, rings, 5, ()) := by
  have hD := h.dom
  have hRF := RF_iff.2 h
  rw [tlink_eq, tlink_d]
  simp only [asked_val n rings u v hD, hRF, iu, iv, and_self, if_true, ieq_dec, tplace_val n rings _ hD.1 (fun l hl => (hD.2 l hl).1), hp, decide_true, Bool.not_true]
end Go.Pev.Pl
end
section
namespace Go.Pev.Pl
abbrev Edge := Int × Int × Unit
inductive Con (l : List Edge) : Int → Int → Prop
  | refl (a : Int) : Con l a a
  | edge (e : Edge) : e ∈ l → Con l e.1 e.2.1
  | symm {a b : Int} : Con l a b → Con l b a
  | trans {a b c : Int} : Con l a b → Con l b c → Con l a c
theorem Con.mono {l l' : List Edge} (h : ∀ e ∈ l, ∃ e' ∈ l', (e'.1 = e.1 ∧ e'.2.1 = e.2.1) ∨ (e'.1 = e.2.1 ∧ e'.2.1 = e.1)) {a b : Int} (c : Con l a b) : Con l' a b := by
  induction c with
  | refl a => exact .refl a
  | edge e he =>
    obtain ⟨e', h1, h2 | h2⟩ := h e he
    · have := Con.edge e' h1
      rw [h2.1, h2.2] at this
      exact this
    · have := Con.edge e' h1
      rw [h2.1, h2.2] at this
      exact this.symm
  | symm _ ih => exact ih.symm
  | trans _ _ ih1 ih2 => exact ih1.trans ih2
theorem Con.snoc {l : List Edge} {e : Edge} {a b : Int} : Con (l ++ [e]) a b ↔ Con l a b ∨ (Con l a e.1 ∧ Con l e.2.1 b) ∨ (Con l a e.2.1 ∧ Con l e.1 b) := by
  constructor
  · intro h
    induction h with
    | refl a => exact .inl (.refl a)
    | edge e' he =>
      rcases List.mem_append.1 he with h | h
      · exact .inl (.edge e' h)
      · simp only [List.mem_singleton] at h
        subst h
        exact .inr (.inl ⟨.refl _, .refl _⟩)
    | symm _ ih =>
      rcases ih with h | ⟨h1, h2⟩ | ⟨h1, h2⟩
      · exact .inl h.symm
      · exact .inr (.inr ⟨h2.symm, h1.symm⟩)
      · exact .inr (.inl ⟨h2.symm, h1.symm⟩)
    | trans _ _ ih1 ih2 =>
      rcases ih1 with h | ⟨h1, h2⟩ | ⟨h1, h2⟩
      · rcases ih2 with g | ⟨g1, g2⟩ | ⟨g1, g2⟩
        · exact .inl (h.trans g)
        · exact .inr (.inl ⟨h.trans g1, g2⟩)
        · exact .inr (.inr ⟨h.trans g1, g2⟩)
      · rcases ih2 with g | ⟨g1, g2⟩ | ⟨g1, g2⟩
        · exact .inr (.inl ⟨h1, h2.trans g⟩)
        · exact .inr (.inl ⟨h1, g2⟩)
        · exact .inl (h1.trans g2)
      · rcases ih2 with g | ⟨g1, g2⟩ | ⟨g1, g2⟩
        · exact .inr (.inr ⟨h1, h2.trans g⟩)
        · exact .inl (h1.trans g2)
        · exact .inr (.inr ⟨h1, g2⟩)
  · have up : ∀ {x y}, Con l x y → Con (l ++ [e]) x y := fun h => h.mono fun e' he => ⟨e', by simp [he], .inl ⟨rfl, rfl⟩⟩
    have he : Con (l ++ [e]) e.1 e.2.1 := .edge e (by simp)
    rintro (h | ⟨h1, h2⟩ | ⟨h1, h2⟩)
    · exact up h
    · exact (up h1).trans (he.trans (up h2))
    · exact (up h1).trans (he.symm.trans (up h2))
theorem Con.nil {a b : Int} (h : Con [] a b) : a = b := by
  induction h with
  | refl a => rfl
  | edge e he => cases he
  | symm _ ih => exact ih.symm
  | trans _ _ ih1 ih2 => exact ih1.trans ih2
theorem Con.within {l : List Edge} {I : Int → Prop} (h : ∀ e ∈ l, I e.1 ∧ I e.2.1) {a b : Int} (c : Con l a b) : a = b ∨ (I a ∧ I b) := by
  induction c with
  | refl a => exact .inl rfl
  | edge e he => exact .inr (h e he)
  | symm _ ih =>
    rcases ih with h | h
    · exact .inl h.symm
    · exact .inr ⟨h.2, h.1⟩
  | trans _ _ ih1 ih2 =>
    rcases ih1 with rfl | h1
    · exact ih2
    · rcases ih2 with rfl | h2
      · exact .inr h1
      · exact .inr ⟨h1.1, h2.2⟩
theorem Con.const {l : List Edge} {f : Int → Int} (h : ∀ e ∈ l, f e.1 = f e.2.1) {a b : Int} (c : Con l a b) : f a = f b := by
  induction c with
  | refl a => rfl
  | edge e he => exact h e he
  | symm _ ih => exact ih.symm
  | trans _ _ ih1 ih2 => exact ih1.trans ih2
end Go.Pev.Pl
end
section
namespace Go.Pev.Pl
open Tok
def Same (rings : List (List Int)) (a b : Int) : Prop := ∃ A ∈ rings, a ∈ A ∧ b ∈ A
structure FC (n : Int) (rings : List (List Int)) (l : List Edge) : Prop where
  fr : FR n rings
  sam : ∀ a b, In n a → In n b → (Same rings a b ↔ Con l a b)
  arcs : ∀ A ∈ rings, ∀ u v, okT n (.arc u v) → arcT n u v ∈ A → ∃ e ∈ l, (e.1 = u ∧ e.2.1 = v) ∨ (e.1 = v ∧ e.2.1 = u)
theorem FR.same_plc {n : Int} {rings : List (List Int)} (h : FR n rings) {a b : Int} (ia : In n a) (ib : In n b) : plc rings a = plc rings b ↔ Same rings a b := by
  obtain ⟨i, A, pa, hi, ha, _⟩ := plc_in (h.cov a ia)
  obtain ⟨j, B, pb, hj, hb, _⟩ := plc_in (h.cov b ib)
  rw [pa, pb]
  constructor
  · intro e
    have : i = j := by omega
    subst this
    rw [hi] at hj
    cases hj
    exact ⟨A, List.mem_of_getElem? hi, ha, hb⟩
  · rintro ⟨K, hK, h1, h2⟩
    obtain ⟨k, hk⟩ : ∃ k : Nat, rings[k]? = some K := by
      obtain ⟨k, hk, rfl⟩ := List.getElem_of_mem hK
      exact ⟨k, List.getElem?_eq_getElem hk⟩
    rw [h.uniq hi hk ia.2.2.2 ha h1, h.uniq hj hk ib.2.2.2 hb h2]
theorem FR.one {n : Int} {rings : List (List Int)} (h : FR n rings) {A B : List Int} (hA : A ∈ rings) (hB : B ∈ rings) {v : Int} (iv : v < n) (h1 : v ∈ A) (h2 : v ∈ B) : A = B := by
  obtain ⟨i, hi, rfl⟩ := List.getElem_of_mem hA
  obtain ⟨j, hj, rfl⟩ := List.getElem_of_mem hB
  have := h.uniq (List.getElem?_eq_getElem hi) (List.getElem?_eq_getElem hj) iv h1 h2
  subst this
  rfl
theorem Same.perm {a b : List (List Int)} (h : a.Perm b) (x y : Int) : Same a x y ↔ Same b x y := by
  constructor
  · rintro ⟨A, hA, h1⟩; exact ⟨A, h.mem_iff.1 hA, h1⟩
  · rintro ⟨A, hA, h1⟩; exact ⟨A, h.mem_iff.2 hA, h1⟩
theorem link_arcs {n u v x y : Int} {A B : List Int} (hA : TI n A) (hB : TI n B) (hu : u ∈ A) (hv : v ∈ B) (iu : In n u) (iv : In n v) (hd : Dis n A B) (ho : okT n (.arc x y)) (h : arcT n x y ∈ linkAll n A B u v) : arcT n x y ∈ A ∨ arcT n x y ∈ B ∨ (x = u ∧ y = v) ∨ (x = v ∧ y = u) := by
  obtain ⟨_, l2, _, huv, ho2⟩ := link_ring hA hB hu hv iu iv hd
  have pA := (rotAt_irot hu).perm
  have pB := (rotAt_irot hv).perm
  have g := arc_ge ho
  rw [linkAll, List.mem_cons, List.mem_cons, List.mem_append, List.mem_cons] at h
  rcases h with h | h | h | h | h
  · have := iu.2.2.2; omega
  · rw [arcT_enc ho, arcT_enc ho2] at h
    have := enc_inj ho ho2 h
    cases this
    exact .inr (.inr (.inl ⟨rfl, rfl⟩))
  · exact .inr (.inl (pB.mem_iff.2 h))
  · rw [arcT_enc ho, arcT_enc (okT_swap ho2)] at h
    have := enc_inj ho (okT_swap ho2) h
    cases this
    exact .inr (.inr (.inr ⟨rfl, rfl⟩))
  · refine .inl (pA.mem_iff.2 ?_)
    rw [l2]
    exact List.mem_cons_of_mem _ h
theorem FC_link {n : Int} {rings : List (List Int)} {l : List Edge} {e : Edge} (h : FC n rings l) (iu : In n e.1) (iv : In n e.2.1) :
    ∃ zs q, tlink ((n, (rings, ())), e.1, e.2.1, ()) = some (n, zs, q, ()) ∧ FC n zs (l ++ [e]) ∧ (q = 0 ∧ zs.length + 1 = rings.length ∨ q = 5 ∧ zs = rings) := by
  have hF := h.fr
  obtain ⟨i, A, pu, hi, hu, _⟩ := plc_in (hF.cov _ iu)
  obtain ⟨j, B, pv, hj, hv, _⟩ := plc_in (hF.cov _ iv)
  have mA := List.mem_of_getElem? hi
  have mB := List.mem_of_getElem? hj
  by_cases hij : i = j
  · have hpe : plc rings e.1 = plc rings e.2.1 := by rw [pu, pv, hij]
    refine ⟨rings, 5, link_there hF iu iv hpe, ⟨hF, fun a b ia ib => ?_, fun A hA u v ho hm => ?_⟩, .inr ⟨rfl, rfl⟩⟩
    · rw [h.sam a b ia ib, Con.snoc]
      have hc : Con l e.1 e.2.1 := (h.sam _ _ iu iv).1 ((hF.same_plc iu iv).1 hpe)
      constructor
      · exact .inl
      · rintro (g | ⟨g1, g2⟩ | ⟨g1, g2⟩)
        · exact g
        · exact g1.trans (hc.trans g2)
        · exact g1.trans (hc.symm.trans g2)
    · obtain ⟨e', h1, h2⟩ := h.arcs A hA u v ho hm
      exact ⟨e', by simp [h1], h2⟩
  · obtain ⟨zs, rest, q1, q3, q4, q5, q6⟩ := link_ok hF iu iv hi hj hu hv hij
    have gA := hF.rg A mA
    have gB := hF.rg B mB
    obtain ⟨l1, l2, l3, huv, ho⟩ := link_ring gA.2.2.2 gB.2.2.2 hu hv iu iv q6
    obtain ⟨hRG, hrot⟩ := RG_plain l1
    have len1 := q4.length_eq
    have len2 := q5.length_eq
    simp only [List.length_cons] at len1 len2
    refine ⟨zs, 0, q1, ⟨q3, fun a b ia ib => ?_, fun K hK x y hxy hm => ?_⟩, .inl ⟨rfl, by omega⟩⟩
    · rw [Same.perm q5, Con.snoc, ← h.sam a b ia ib, ← h.sam a _ ia iu, ← h.sam _ b iv ib, ← h.sam a _ ia iv, ← h.sam _ b iu ib]
      have pmem : ∀ x, In n x → (x ∈ plain (linkAll n A B e.1 e.2.1) ↔ x ∈ A ∨ x ∈ B) := fun x ix => by rw [← hrot.perm.mem_iff]; exact l3 x ix.2.2.2
      have sA : ∀ x, In n x → (Same rings x e.1 ↔ x ∈ A) := fun x ix => by
        constructor
        · rintro ⟨K, hK, h1, h2⟩
          rw [hF.one mA hK iu.2.2.2 hu h2]; exact h1
        · intro hx; exact ⟨A, mA, hx, hu⟩
      have sB : ∀ x, In n x → (Same rings x e.2.1 ↔ x ∈ B) := fun x ix => by
        constructor
        · rintro ⟨K, hK, h1, h2⟩
          rw [hF.one mB hK iv.2.2.2 hv h2]; exact h1
        · intro hx; exact ⟨B, mB, hx, hv⟩
      have sy : ∀ x y, Same rings x y ↔ Same rings y x := fun x y => ⟨fun ⟨K, a, b, c⟩ => ⟨K, a, c, b⟩, fun ⟨K, a, b, c⟩ => ⟨K, a, c, b⟩⟩
      rw [sA a ia, sB a ia, sy e.2.1 b, sB b ib, sy e.1 b, sA b ib]
      have hs : Same rings a b ↔ (a ∈ A ∧ b ∈ A) ∨ (a ∈ B ∧ b ∈ B) ∨ ∃ K ∈ rest, a ∈ K ∧ b ∈ K := by
        rw [Same.perm q4]
        simp only [Same, List.mem_cons, exists_eq_or_imp]
      have hz : Same (plain (linkAll n A B e.1 e.2.1) :: rest) a b ↔ ((a ∈ A ∨ a ∈ B) ∧ (b ∈ A ∨ b ∈ B)) ∨ ∃ K ∈ rest, a ∈ K ∧ b ∈ K := by
        simp only [Same, List.mem_cons, exists_eq_or_imp, pmem a ia, pmem b ib]
      rw [hs, hz]
      constructor
      · rintro (⟨h1 | h1, h2 | h2⟩ | h)
        · exact .inl (.inl ⟨h1, h2⟩)
        · exact .inr (.inl ⟨h1, h2⟩)
        · exact .inr (.inr ⟨h1, h2⟩)
        · exact .inl (.inr (.inl ⟨h1, h2⟩))
        · exact .inl (.inr (.inr h))
      · rintro ((⟨h1, h2⟩ | ⟨h1, h2⟩ | h) | ⟨h1, h2⟩ | ⟨h1, h2⟩)
        · exact .inl ⟨.inl h1, .inl h2⟩
        · exact .inl ⟨.inr h1, .inr h2⟩
        · exact .inr h
        · exact .inl ⟨.inl h1, .inr h2⟩
        · exact .inl ⟨.inr h1, .inl h2⟩
    · have old : ∀ K ∈ rings, arcT n x y ∈ K → ∃ e' ∈ l ++ [e], (e'.1 = x ∧ e'.2.1 = y) ∨ (e'.1 = y ∧ e'.2.1 = x) := fun K hK hm => by
        obtain ⟨e', h1, h2⟩ := h.arcs K hK x y hxy hm
        exact ⟨e', by simp [h1], h2⟩
      rcases List.mem_cons.1 (q5.mem_iff.1 hK) with rfl | hK
      · rcases link_arcs gA.2.2.2 gB.2.2.2 hu hv iu iv q6 hxy (hrot.perm.mem_iff.2 hm) with g | g | ⟨g1, g2⟩ | ⟨g1, g2⟩
        · exact old A mA g
        · exact old B mB g
        · exact ⟨e, by simp, .inl ⟨g1.symm, g2.symm⟩⟩
        · exact ⟨e, by simp, .inr ⟨g2.symm, g1.symm⟩⟩
      · exact old K (q4.mem_iff.2 (by simp [hK])) hm
theorem FC_singles {N : Nat} (h1 : 1 ≤ N) (h2 : N ≤ 64) : FC (N : Int) (singles N) [] := by
  have hS : ∀ A ∈ singles N, ∃ k : Nat, k < N ∧ A = [(k : Int)] := fun A hA => by
    simp only [singles, List.mem_map, List.mem_range] at hA
    obtain ⟨k, hk, rfl⟩ := hA
    exact ⟨k, hk, rfl⟩
  have key : ∀ k, k < N → In (N : Int) (k : Int) := fun k hk => ⟨by omega, by omega, by omega, by omega⟩
  refine ⟨⟨⟨by omega, by omega⟩, fun l hl => ?_, ?_, ?_, fun v hv => ?_⟩, fun a b ia ib => ?_, fun A hA u v ho hm => ?_⟩
  · obtain ⟨k, hk, rfl⟩ := hS l hl
    refine ⟨⟨by simp, fun x hx => ?_, by simp⟩, by simp, rfl, (TI_one (N : Int) k).2 (key k hk)⟩
    simp only [List.mem_singleton] at hx
    omega
  · rw [singles, List.pairwise_map]
    exact List.pairwise_lt_range.imp fun h => by simp only [hd, List.headD_cons]; omega
  · rw [singles, List.pairwise_map]
    exact List.pairwise_lt_range.imp fun {a b} h t ht _ ht2 => by
      simp only [List.mem_singleton] at ht ht2
      omega
  · obtain ⟨k, rfl⟩ := Int.eq_ofNat_of_zero_le hv.2.2.1
    have := hv.2.2.2
    exact ⟨[(k : Int)], by simp only [singles, List.mem_map, List.mem_range]; exact ⟨k, by omega, rfl⟩, by simp⟩
  · constructor
    · rintro ⟨A, hA, h1, h2⟩
      obtain ⟨k, _, rfl⟩ := hS A hA
      simp only [List.mem_singleton] at h1 h2
      rw [h1, h2]
      exact .refl _
    · intro hc
      have := hc.nil
      subst this
      obtain ⟨k, rfl⟩ := Int.eq_ofNat_of_zero_le ia.2.2.1
      have := ia.2.2.2
      exact ⟨[(k : Int)], by simp only [singles, List.mem_map, List.mem_range]; exact ⟨k, by omega, rfl⟩, by simp, by simp⟩
  · obtain ⟨k, hk, rfl⟩ := hS A hA
    simp only [List.mem_singleton] at hm
    have := arc_ge ho
    omega
theorem ends_val (l : List Edge) (hs : l.length < 1073741824) : ends (l, ()) = some (l.flatMap fun e => [e.1, e.2.1], ()) := by
  rw [ends_eq, ends_d]
  have e := walkL (step := ends_s0) (fun i (a : List Int) => (a, l, dlen l, (i : Int), ())) l (fun x a => .inl (a ++ [x.1, x.2.1])) (fun a => .inl (a, ())) (fun i a => a.length = 2 * i) (by omega)
    (fun i x a hi hx h1 => by
      refine ⟨fun m' h' => ?_, fun r h' => by cases h'⟩
      cases h'
      rw [ends_s0, dlen_l, ilt_nat, decide_eq_true hi]
      simp only [idx_some hx]
      rw [wrap_add1 (by omega), fits_l (by simp only [dlen_l, List.length_cons, List.length_nil]; omega)]
      exact ⟨rfl, by simp; omega⟩)
    (fun a _ => by rw [ends_s0, dlen_l, ilt_nat, decide_eq_false (by omega)]) [] rfl
  have e' : iterL ends_s0 many ([], l, dlen l, (0 : Int), ()) = _ := e
  rw [e', walk_fold]
  have hf : ∀ (xs : List Edge) (acc : List Int), xs.foldl (fun a x => a ++ [x.1, x.2.1]) acc = acc ++ xs.flatMap fun e => [e.1, e.2.1] := by
    intro xs
    induction xs with
    | nil => intro acc; simp
    | cons x xs ih => intro acc; rw [List.foldl_cons, ih, List.flatMap_cons]; simp
  rw [hf]
  rfl
theorem ends_all (n : Int) (l : List Edge) : ((l.flatMap fun e => [e.1, e.2.1]).all fun v => decide (In n v)) = l.all fun e => decide (In n e.1 ∧ In n e.2.1) := by
  induction l with
  | nil => rfl
  | cons e l ih =>
    rw [List.flatMap_cons, List.all_append, List.all_cons, ih]
    simp
theorem ends_len (l : List Edge) : (l.flatMap fun e => [e.1, e.2.1]).length = 2 * l.length := by
  induction l with
  | nil => rfl
  | cons e l ih => rw [List.flatMap_cons, List.length_append, ih]; simp; omega
theorem links_loop {n : Int} (l : List Edge) (hs : l.length < 1073741824) (ha : ∀ e ∈ l, In n e.1 ∧ In n e.2.1) :
    ∀ (m i cnt : Nat) (rings : List (List Int)) (taken : List Bool), i + m = l.length → taken.length = i → FC n rings (l.take i) → m < cnt →
    ∃ zs taken', iterO eachLink_s0 cnt (n, rings, (0 : Int), taken, l, (l.length : Int), (i : Int), ()) = some (.inl (n, zs, (0 : Int), taken', ())) ∧ FC n zs l ∧ taken'.length = l.length := by
  intro m
  induction m with
  | zero =>
    intro i cnt rings taken hi ht h hc
    obtain ⟨cnt, rfl⟩ : ∃ c, cnt = c + 1 := ⟨cnt - 1, by omega⟩
    rw [List.take_of_length_le (by omega)] at h
    refine ⟨rings, taken, ?_, h, by omega⟩
    rw [iterO, eachLink_s0, ilt_nat, decide_eq_false (by omega)]
  | succ m ih =>
    intro i cnt rings taken hi ht h hc
    obtain ⟨cnt, rfl⟩ : ∃ c, cnt = c + 1 := ⟨cnt - 1, by omega⟩
    have hi' : i < l.length := by omega
    have hx : l[i]? = some l[i] := List.getElem?_eq_getElem hi'
    obtain ⟨iu, iv⟩ := ha _ (List.getElem_mem hi')
    obtain ⟨zs, q, e1, e2, _⟩ := FC_link h iu iv
    rw [iterO, eachLink_s0, ilt_nat, decide_eq_true hi']
    simp only [idx_some hx, e1]
    rw [wrap_add1 (by omega), fits_l (by simp only [dlen_l, List.length_cons, List.length_nil]; omega)]
    rw [← List.take_succ_eq_append_getElem hi'] at e2
    exact ih (i + 1) cnt zs _ (by omega) (by simp [dapp_l, ht]) e2 (by omega)
theorem fof_val (k : Int) (l : List Edge) (hk : Sz k) (hs : l.length < 1073741824) :
    ((∀ e ∈ l, In k e.1 ∧ In k e.2.1) ∧ ∃ rings, fof (k, l, ()) = some ((k, (rings, ())), 0, ()) ∧ FC k rings l) ∨
    (¬ (∀ e ∈ l, In k e.1 ∧ In k e.2.1) ∧ fof (k, l, ()) = some ((0, ([], ())), 10, ())) := by
  have hmany : 9223372036854775808 < many := by simp only [many]; omega
  rw [fof_eq, fof_d]
  have hm : makeOut k = (k, singles k.toNat, 0, ()) := by rw [makeOut, if_pos hk]
  obtain ⟨s1, s2⟩ := hk
  obtain ⟨N, rfl⟩ := Int.eq_ofNat_of_zero_le (show 0 ≤ k by omega)
  have h0 := FC_singles (N := N) (by omega) (by omega)
  have hD := h0.fr.dom
  have hRF := RF_iff.2 h0.fr
  have hfl := ends_len l
  have hth : fthere (((N : Int), (singles N, ())), l.flatMap fun e => [e.1, e.2.1], ()) = some (if ∀ e ∈ l, In (N : Int) e.1 ∧ In (N : Int) e.2.1 then 0 else 10, ()) := by
    rw [fthere_val _ _ _ hD (by omega), ends_all, askE, if_pos hRF]
    by_cases ha : ∀ e ∈ l, In (N : Int) e.1 ∧ In (N : Int) e.2.1
    · rw [if_pos ha, if_pos (List.all_eq_true.2 fun e he => decide_eq_true (ha e he))]
    · rw [if_neg ha, if_neg]
      intro hc
      exact ha fun e he => of_decide_eq_true (List.all_eq_true.1 hc e he)
  simp only [tmake_val, hm, Int.toNat_natCast, ieq_self, Bool.not_true]
  rw [flinks_eq, flinks_d, eachLink_eq, eachLink_d]
  by_cases ha : ∀ e ∈ l, In (N : Int) e.1 ∧ In (N : Int) e.2.1
  · refine .inl ⟨ha, ?_⟩
    rw [if_pos ha] at hth
    obtain ⟨zs, taken, e1, e2, _⟩ := links_loop l hs ha l.length 0 many (singles N) [] (by omega) rfl (by rw [List.take_zero]; exact h0) (by omega)
    have e1' : iterO eachLink_s0 many ((N : Int), singles N, (0 : Int), [], l, (l.length : Int), (0 : Int), ()) = _ := e1
    simp only [ends_val l hs, hth, ieq_self, Bool.not_true, iterL_eq, dlen_l, e1']
    exact ⟨zs, rfl, e2⟩
  · refine .inr ⟨ha, ?_⟩
    rw [if_neg ha] at hth
    simp only [ends_val l hs, hth, ieq_dec]
    rfl
end Go.Pev.Pl
end
section
namespace Go.Pev.Pl
open Tok
def cl (out : List Int) (v : Int) : Int := out.getD v.toNat 0
def CI (N : Nat) (l : List Edge) (out : List Int) : Prop := out.length = N ∧ ∀ k, k < N → 0 ≤ out.getD k 0 ∧ out.getD k 0 ≤ (k : Int) ∧ Con l (k : Int) (out.getD k 0)
theorem sum_set : ∀ (l : List Int) (k : Nat) (x : Int), k < l.length → (l.set k x).sum = l.sum - l.getD k 0 + x := by
  intro l
  induction l with
  | nil => intro k x h; simp at h
  | cons y l ih =>
    intro k x h
    cases k with
    | zero => simp; omega
    | succ k =>
      have := ih k x (by simpa using h)
      simp only [List.set_cons_succ, List.sum_cons, List.getD_cons_succ, this]
      omega
theorem sum_bounds {N : Nat} {l : List Edge} {out : List Int} (h : CI N l out) (hN : N ≤ 64) : 0 ≤ out.sum ∧ out.sum ≤ 4096 := by
  obtain ⟨h1, h2⟩ := h
  have key : ∀ (xs : List Int), (∀ x ∈ xs, 0 ≤ x ∧ x ≤ 64) → 0 ≤ xs.sum ∧ xs.sum ≤ 64 * (xs.length : Int) := by
    intro xs
    induction xs with
    | nil => intro _; simp
    | cons x xs ih =>
      intro h
      have h3 := ih fun y hy => h y (List.mem_cons_of_mem _ hy)
      have h4 := h x (by simp)
      simp only [List.sum_cons, List.length_cons]
      omega
  have := key out fun x hx => by
    obtain ⟨k, hk, rfl⟩ := List.getElem_of_mem hx
    have h5 := h2 k (by omega)
    rw [List.getD_eq_getElem?_getD, List.getElem?_eq_getElem hk, Option.getD_some] at h5
    omega
  omega
theorem sweep (N : Nat) (l : List Edge) (hs : l.length < 1073741824) (ha : ∀ e ∈ l, In (N : Int) e.1 ∧ In (N : Int) e.2.1) :
    ∀ (m i cnt : Nat) (out : List Int) (more : Bool), i + m = l.length → CI N l out → m < cnt →
    ∃ out' more', iterO classes19_s2 cnt ((N : Int), l, out, more, (i : Int), ()) = some (.inl ((N : Int), l, out', more', ())) ∧ CI N l out' ∧
      ((more' = more ∧ out' = out ∧ ∀ e ∈ l.drop i, cl out e.1 = cl out e.2.1) ∨ (more' = true ∧ out'.sum < out.sum)) := by
  intro m
  induction m with
  | zero =>
    intro i cnt out more hi h hc
    obtain ⟨cnt, rfl⟩ : ∃ c, cnt = c + 1 := ⟨cnt - 1, by omega⟩
    refine ⟨out, more, ?_, h, .inl ⟨rfl, rfl, ?_⟩⟩
    · rw [iterO, classes19_s2, dlen_l, ilt_nat, decide_eq_false (by omega)]
    · rw [List.drop_of_length_le (by omega)]
      intro e he; cases he
  | succ m ih =>
    intro i cnt out more hi h hc
    obtain ⟨cnt, rfl⟩ : ∃ c, cnt = c + 1 := ⟨cnt - 1, by omega⟩
    have hi' : i < l.length := by omega
    have hx : l[i]? = some l[i] := List.getElem?_eq_getElem hi'
    have hm := List.getElem_mem hi'
    have hdr : l.drop i = l[i] :: l.drop (i + 1) := List.drop_eq_getElem_cons hi'
    rw [iterO, classes19_s2, dlen_l, ilt_nat, decide_eq_true hi']
    simp only [idx_some hx]
    rw [hdr, wrap_add1 (by omega)]
    generalize l[i] = e at *
    obtain ⟨iu, iv⟩ := ha e hm
    have hcon := Con.edge e hm
    obtain ⟨eu, ev, eu'⟩ := e
    simp only at iu iv hcon ⊢
    obtain ⟨u, rfl⟩ := Int.eq_ofNat_of_zero_le iu.2.2.1
    obtain ⟨v, rfl⟩ := Int.eq_ofNat_of_zero_le iv.2.2.1
    have hu : u < N := by have := iu.2.2.2; omega
    have hv : v < N := by have := iv.2.2.2; omega
    have hul : u < out.length := by rw [h.1]; exact hu
    have hvl : v < out.length := by rw [h.1]; exact hv
    rw [ilt_eq, decide_eq_false (by omega)]
    simp only []
    rw [ilt_eq, decide_eq_false (by omega)]
    simp only []
    rw [ile_eq, decide_eq_false (by omega)]
    simp only []
    rw [ile_eq, decide_eq_false (by omega)]
    simp only [idx_l (0 : Int) hul, idx_l (0 : Int) hvl, dget_l, dset_l, ieq_dec]
    by_cases hq : out.getD u 0 = out.getD v 0
    · rw [decide_eq_true hq]
      obtain ⟨out', more', e1, e2, e3⟩ := ih (i + 1) cnt out more (by omega) h (by omega)
      refine ⟨out', more', e1, e2, ?_⟩
      rcases e3 with ⟨g1, g2, g3⟩ | g
      · refine .inl ⟨g1, g2, fun e' he' => ?_⟩
        rcases List.mem_cons.1 he' with rfl | he'
        · simpa [cl] using hq
        · exact g3 e' he'
      · exact .inr g
    · rw [decide_eq_false hq]
      have hne : u ≠ v := by rintro rfl; exact hq rfl
      have hlow : imin (out.getD u 0) (out.getD v 0) = if out.getD v 0 < out.getD u 0 then out.getD v 0 else out.getD u 0 := rfl
      generalize hlw : imin (out.getD u 0) (out.getD v 0) = low at *
      have hvl2 : v < (out.set u low).length := by simp; exact hvl
      simp only [idx_l (0 : Int) hvl2]
      have cu := h.2 u hu
      have cv := h.2 v hv
      have hset : ∀ k, k < N → ((out.set u low).set v low).getD k 0 = if k = u ∨ k = v then low else out.getD k 0 := by
        intro k hk
        have hkl : k < out.length := by rw [h.1]; exact hk
        by_cases k2 : k = v
        · subst k2
          simp [List.getD_eq_getElem?_getD, hkl]
        · by_cases k1 : k = u
          · subst k1
            rw [if_pos (.inl rfl), List.getD_eq_getElem?_getD, List.getElem?_set_ne (Ne.symm k2)]
            simp [hkl]
          · rw [if_neg (by omega), List.getD_eq_getElem?_getD, List.getElem?_set_ne (Ne.symm k2), List.getElem?_set_ne (Ne.symm k1), List.getD_eq_getElem?_getD]
      have hlc : 0 ≤ low ∧ low ≤ (u : Int) ∧ low ≤ (v : Int) ∧ Con l (u : Int) low := by
        rw [hlow]
        split
        · exact ⟨cv.1, by omega, cv.2.1, hcon.trans cv.2.2⟩
        · exact ⟨cu.1, cu.2.1, by omega, cu.2.2⟩
      have hI : CI N l ((out.set u low).set v low) := by
        refine ⟨by simp [h.1], fun k hk => ?_⟩
        rw [hset k hk]
        split
        · rename_i hkk
          rcases hkk with rfl | rfl
          · exact ⟨hlc.1, hlc.2.1, hlc.2.2.2⟩
          · exact ⟨hlc.1, hlc.2.2.1, hcon.symm.trans hlc.2.2.2⟩
        · exact h.2 k hk
      have hsum : ((out.set u low).set v low).sum < out.sum := by
        rw [sum_set _ _ _ hvl2, sum_set _ _ _ hul]
        have : (out.set u low).getD v 0 = out.getD v 0 := by
          rw [List.getD_eq_getElem?_getD, List.getElem?_set_ne hne, ← List.getD_eq_getElem?_getD]
        rw [this, hlow]
        split <;> omega
      obtain ⟨out', more', e1, e2, e3⟩ := ih (i + 1) cnt _ true (by omega) hI (by omega)
      refine ⟨out', more', e1, e2, .inr ?_⟩
      rcases e3 with ⟨g1, g2, _⟩ | ⟨g1, g2⟩
      · exact ⟨g1, by rw [g2]; exact hsum⟩
      · exact ⟨g1, by omega⟩
theorem sweeps (N : Nat) (hN : N ≤ 64) (l : List Edge) (hs : l.length < 1073741824) (ha : ∀ e ∈ l, In (N : Int) e.1 ∧ In (N : Int) e.2.1) :
    ∀ (m cnt : Nat) (out : List Int), out.sum.toNat = m → CI N l out → m + 1 < cnt →
    ∃ out', iterO classes19_s1 cnt ((N : Int), l, out, true, ()) = some (.inl (out', ())) ∧ CI N l out' ∧ ∀ e ∈ l, cl out' e.1 = cl out' e.2.1 := by
  have hmany : 9223372036854775808 < many := by simp only [many]; omega
  intro m
  induction m using Nat.strongRecOn with
  | _ m ih =>
  intro cnt out hm h hc
  obtain ⟨cnt, rfl⟩ : ∃ c, cnt = c + 1 := ⟨cnt - 1, by omega⟩
  rw [iterO, classes19_s1]
  obtain ⟨out', more', e1, e2, e3⟩ := sweep N l hs ha l.length 0 many out false (by omega) h (by omega)
  have e1' : iterO classes19_s2 many ((N : Int), l, out, false, (0 : Int), ()) = _ := e1
  simp only [iterL_eq, e1']
  rcases e3 with ⟨g1, g2, g3⟩ | ⟨g1, g2⟩
  · subst g1 g2
    obtain ⟨cnt, rfl⟩ : ∃ c, cnt = c + 1 := ⟨cnt - 1, by omega⟩
    rw [iterO, classes19_s1]
    exact ⟨_, rfl, e2, by simpa using g3⟩
  · subst g1
    have b1 := sum_bounds h hN
    have b2 := sum_bounds e2 hN
    exact ih out'.sum.toNat (by omega) cnt out' rfl e2 (by omega)
structure ClOK (n : Int) (l : List Edge) (out : List Int) : Prop where
  len : (out.length : Int) = n
  same : ∀ a b, In n a → In n b → (cl out a = cl out b ↔ Con l a b)
  isin : ∀ a, In n a → In n (cl out a)
  con : ∀ a, In n a → Con l a (cl out a)
  least : ∀ a b, In n a → In n b → Con l a b → cl out a ≤ b
theorem classes19_val (n : Int) (l : List Edge) (hn : Sz n) (hs : l.length < 1073741824) (ha : ∀ e ∈ l, In n e.1 ∧ In n e.2.1) : ∃ out, classes19 (n, l, ()) = some (out, ()) ∧ ClOK n l out := by
  have hmany : 9223372036854775808 < many := by simp only [many]; omega
  obtain ⟨s1, s2⟩ := hn
  obtain ⟨N, rfl⟩ := Int.eq_ofNat_of_zero_le (show 0 ≤ n by omega)
  rw [classes19_eq, classes19_d]
  have key : ∀ (m k cnt : Nat), k + m = N → m < cnt → iterO classes19_s0 cnt ((N : Int), l, (List.range k).map (fun (k : Nat) => (k : Int)), (k : Int), ()) = some (.inl ((N : Int), l, (List.range N).map (fun (k : Nat) => (k : Int)), ())) := by
    intro m
    induction m with
    | zero =>
      intro k cnt hk hc
      obtain ⟨cnt, rfl⟩ : ∃ c, cnt = c + 1 := ⟨cnt - 1, by omega⟩
      have : k = N := by omega
      subst this
      rw [iterO, classes19_s0, ilt_nat, decide_eq_false (by omega)]
    | succ m ih =>
      intro k cnt hk hc
      obtain ⟨cnt, rfl⟩ : ∃ c, cnt = c + 1 := ⟨cnt - 1, by omega⟩
      have hih := ih (k + 1) cnt (by omega) (by omega)
      rw [List.range_succ, List.map_append] at hih
      rw [iterO, classes19_s0, ilt_nat, decide_eq_true (by omega)]
      simp only []
      rw [wrap_add1 (by omega), fits_l (by simp only [dlen_l, List.length_cons, List.length_nil, List.length_map, List.length_range]; omega)]
      exact hih
  have e0 := key N 0 many (by omega) (by omega)
  have e0' : iterO classes19_s0 many ((N : Int), l, [], (0 : Int), ()) = _ := e0
  have h0 : CI N l ((List.range N).map (fun (k : Nat) => (k : Int))) := by
    refine ⟨by simp, fun k hk => ?_⟩
    have : ((List.range N).map (fun (k : Nat) => (k : Int))).getD k 0 = (k : Int) := by simp [List.getD_eq_getElem?_getD, hk]
    rw [this]
    exact ⟨by omega, by omega, .refl _⟩
  have hb := sum_bounds h0 (by omega)
  obtain ⟨out, e1, e2, e3⟩ := sweeps N (by omega) l hs ha _ many _ rfl h0 (by omega)
  simp only [iterL_eq, e0', e1]
  have fact : ∀ a, In (N : Int) a → 0 ≤ cl out a ∧ cl out a ≤ a ∧ Con l a (cl out a) := by
    intro a hia
    obtain ⟨k, rfl⟩ := Int.eq_ofNat_of_zero_le hia.2.2.1
    have := e2.2 k (by have := hia.2.2.2; omega)
    simpa [cl] using this
  refine ⟨out, rfl, by rw [e2.1], fun a b ia ib => ⟨fun h => ?_, fun h => h.const e3⟩, fun a ia => ?_, fun a ia => (fact a ia).2.2, fun a b ia ib h => ?_⟩
  · have h1 := (fact a ia).2.2
    have h2 := (fact b ib).2.2
    rw [← h] at h2
    exact h1.trans h2.symm
  · have := fact a ia
    have h3 := ia.2.2.2
    exact ⟨s1, s2, by omega, by omega⟩
  · have h1 : cl out a = cl out b := h.const e3
    have := (fact b ib).2.1
    omega
end Go.Pev.Pl
end
section
namespace Go.Pev.Pl.SE
open Go.Sort
def ok (_ : Int × Int × Unit) : Prop := True
def okz : Int × Int × Unit := (0, 0, ())
theorem okz_ok : ok okz := trivial
def lt (x y : Int × Int × Unit) : Bool := decide (x.1 < y.1 ∨ (x.1 = y.1 ∧ x.2.1 < y.2.1))
theorem swo : SWO lt := ⟨fun x => by simp [lt], fun x y z h1 h2 => by simp only [lt, decide_eq_true_eq] at *; omega, fun x y z h1 h2 => by simp only [lt, decide_eq_false_iff_not] at *; omega⟩
theorem eta3 (x : Int × Int × Unit) : (x.1, (x.2.1, ())) = x := rfl
theorem compare_val (a b : Int) : compareI (a, b, ()) = some (if a < b then -1 else if b < a then 1 else 0, ()) := by
  rw [compareI_eq, compareI_d, nanI_eq, nanI_d, nanI_eq, nanI_d]
  simp only [ieq_eq, ilt_eq]
  by_cases h : a < b
  · simp [h]
  · by_cases h2 : b < a
    · simp [h, h2]
    · simp [h, h2]
theorem or_val (a b : Int) : orI ([a, b], ()) = some (if a = 0 then b else a, ()) := by
  obtain ⟨m, hm⟩ : ∃ m, many = m + 3 := ⟨many - 3, by simp only [many]⟩
  rw [orI_eq, orI_d, iterL_eq, hm]
  have i0 : idx [a, b] (0 : Int) = some a := by rw [idx_eq]; rfl
  have i1 : idx [a, b] (1 : Int) = some b := by rw [idx_eq]; rfl
  have l2 : dlen [a, b] = (2 : Int) := rfl
  have w1 : IntKind.wrap .i64 ((0 : Int) + 1) = 1 := by rw [wrap_in (by omega)]; rfl
  have w2 : IntKind.wrap .i64 ((1 : Int) + 1) = 2 := by rw [wrap_in (by omega)]; rfl
  have c0 : ilt (0 : Int) 2 = true := by rw [ilt_eq]; rfl
  have c1 : ilt (1 : Int) 2 = true := by rw [ilt_eq]; rfl
  have c2 : ilt (2 : Int) 2 = false := by rw [ilt_eq]; rfl
  by_cases ha : a = 0
  · subst ha
    by_cases hb : b = 0
    · subst hb
      have z : ieq (0 : Int) 0 = true := by rw [ieq_eq]; rfl
      simp only [iterO, orI_s0, l2, i0, i1, w1, w2, c0, c1, c2, z, Bool.not_true, if_true]
    · have : ieq b 0 = false := by rw [ieq_eq]; simpa using hb
      have z : ieq (0 : Int) 0 = true := by rw [ieq_eq]; rfl
      simp only [iterO, orI_s0, l2, i0, i1, w1, w2, c0, c1, c2, z, this, Bool.not_true, Bool.not_false, if_true]
  · have : ieq a 0 = false := by rw [ieq_eq]; simpa using ha
    simp only [iterO, orI_s0, l2, i0, i1, w1, w2, c0, c1, c2, this, ha, Bool.not_false, if_false]
theorem cmp_ok {x y : Int × Int × Unit} (_ : ok x) (_ : ok y) : ∃ c, edges1 (x, y, ()) = some (c, ()) ∧ ilt c (0 : Int) = lt x y := by
  rw [edges1_eq, edges1_d]
  simp only [compare_val, or_val, ilt_eq, lt]
  refine ⟨_, rfl, ?_⟩
  apply decide_eq_decide.2
  by_cases h1 : x.1 < y.1
  · simp [h1]
  · by_cases h2 : y.1 < x.1
    · have h3 : ¬ x.1 = y.1 := by omega
      simp [h1, h2, h3]
    · have h3 : x.1 = y.1 := by omega
      by_cases h4 : x.2.1 < y.2.1
      · simp [h3, h4]
      · by_cases h5 : y.2.1 < x.2.1
        · simp [h3, h4, h5]
        · simp [h3, h4, h5]
abbrev EL := {x : Int × Int × Unit // ok x}
instance : Inhabited EL := ⟨⟨okz, okz_ok⟩⟩
def rep (d : Array EL) : List (Int × Int × Unit) := d.toList.map Subtype.val
theorem idx_at {d : Array EL} {n : Nat} (h : n < d.size) : idx (rep d) (n : Int) = some (d[n]!).val := by
  rw [idx_eq, idxR, if_neg (by omega)]
  simp [rep, h]
theorem dget_at {d : Array EL} {n : Nat} {z : Int × Int × Unit} (h : n < d.size) : dget (rep d) (dnat (n : Int)) z = (d[n]!).val := by
  simp [dget, dnat, rep, h]
theorem dset_at {d : Array EL} {n : Nat} {x : EL} : dset (rep d) (dnat (n : Int)) x.val = rep (d.setIfInBounds n x) := by
  simp [dset, dnat, rep, List.map_set]
theorem dlen_at {d : Array EL} : dlen (rep d) = (d.size : Int) := by simp [dlen, rep]
def ltX (x y : EL) : Bool := lt x.val y.val
theorem swoX : SWO ltX := ⟨fun x => swo.irrefl x.val, fun x y z => swo.trans x.val y.val z.val, fun x y z => swo.ntrans x.val y.val z.val⟩
noncomputable def cmpX (x y : EL) : Int := match edges1 (x.val, y.val, ()) with
  | some (c, _) => c
  | none => 0
theorem less_val (x y : EL) : edges1 (x.val, y.val, ()) = some (cmpX x y, ()) := by
  obtain ⟨c, e, _⟩ := cmp_ok x.property y.property
  rw [cmpX, e]
theorem less_lt (x y : EL) : ilt (cmpX x y) (0 : Int) = ltX x y := by
  obtain ⟨c, e, h⟩ := cmp_ok x.property y.property
  rw [cmpX, e]
  exact h
theorem insE_in (a b i : Nat) : ∀ (j : Nat) (d : Array EL) (n : Nat), j < d.size → d.size < 4611686018427387904 → j < n →
    iterO insE_s1 n ((rep d), (a : Int), (b : Int), (i : Int), (j : Int), ()) = some (.inl ((rep (insInner ltX a j d)), (a : Int), (b : Int), (i : Int), ())) := by
  intro j
  induction j with
  | zero =>
    intro d n hj hs hn
    obtain ⟨n, rfl⟩ : ∃ k, n = k + 1 := ⟨n - 1, by omega⟩
    have h0 : ilt (a : Int) ((0 : Nat) : Int) = false := by rw [ilt_nat]; simp
    simp only [iterO, insE_s1, h0, insInner]
  | succ j ih =>
    intro d n hj hs hn
    obtain ⟨n, rfl⟩ : ∃ k, n = k + 1 := ⟨n - 1, by omega⟩
    have e1 : IntKind.wrap .i64 (((j + 1 : Nat) : Int) - 1) = (j : Int) := by rw [wrap_in (by omega)]; omega
    have hj' : j < d.size := by omega
    simp only [iterO, insE_s1, ilt_nat, e1, idx_at hj, idx_at hj', dget_at hj, dget_at hj', eta3, less_val, less_lt, insInner, gt_iff_lt]
    by_cases h1 : a < j + 1
    · cases h2 : ltX d[j + 1]! d[j]!
      · simp only [h1, decide_true, h2, Bool.and_false, Bool.false_eq_true, if_false]
      · simp only [h1, decide_true, h2, Bool.and_true, if_true, eta3, dset_at]
        rw [idx_at (by simpa using hj')]
        simp only [swp_fold]
        exact ih (swp d (j + 1) j) n (by rw [size_swp]; omega) (by rw [size_swp]; omega) (by omega)
    · simp only [h1, decide_false, Bool.false_and, Bool.false_eq_true, if_false]
theorem size_insInner (lt : EL → EL → Bool) (a j : Nat) (d : Array EL) : (insInner lt a j d).size = d.size := by
  induction j generalizing d with
  | zero => rfl
  | succ j ih =>
    rw [insInner]
    split
    · rw [ih, size_swp]
    · rfl
theorem insE_out (a b : Nat) : ∀ (k i : Nat) (d : Array EL) (n : Nat), b - i = k → b ≤ d.size → d.size < 4611686018427387904 → d.size < many → k < n →
    iterO insE_s0 n ((rep d), (a : Int), (b : Int), (i : Int), ()) = some (.inl ((rep (insOuter ltX a b i d)), ())) := by
  intro k
  induction k with
  | zero =>
    intro i d n hk hb hs hm hn
    obtain ⟨n, rfl⟩ : ∃ k, n = k + 1 := ⟨n - 1, by omega⟩
    have h0 : ¬ i < b := by omega
    rw [insOuter]
    simp only [iterO, insE_s0, ilt_nat, h0, decide_false, if_false]
  | succ k ih =>
    intro i d n hk hb hs hm hn
    obtain ⟨n, rfl⟩ : ∃ k, n = k + 1 := ⟨n - 1, by omega⟩
    have h0 : i < b := by omega
    have e1 : IntKind.wrap .i64 ((i : Int) + 1) = ((i + 1 : Nat) : Int) := by rw [wrap_in (by omega)]; omega
    rw [insOuter]
    simp only [iterO, insE_s0, ilt_nat, h0, decide_true, if_true, iterL_eq]
    rw [insE_in a b i i d many (by omega) hs (by omega)]
    simp only [e1]
    exact ih (i + 1) _ n (by omega) (by rw [size_insInner]; omega) (by rw [size_insInner]; omega) (by rw [size_insInner]; omega) (by omega)
theorem insE_val (d : Array EL) (a b : Nat) (hab : a ≤ b) (hb : b ≤ d.size) (hs : d.size < 4294967296) : insE ((rep d), (a : Int), (b : Int), ()) = some ((rep (insertionSort ltX d a b)), ()) := by
  have hm : d.size < many := by simp only [many]; omega
  have e1 : IntKind.wrap .i64 ((a : Int) + 1) = ((a + 1 : Nat) : Int) := by rw [wrap_in (by omega)]; omega
  rw [insE_eq, insE_d]
  simp only [e1, iterL_eq]
  rw [insE_out a b (b - (a + 1)) (a + 1) d many rfl hb (by omega) hm (by omega)]
  rfl
end Go.Pev.Pl.SE
end
section
namespace Go.Pev.Pl.SE
open Go.Sort
theorem siftE_loop (hi first : Nat) : ∀ (k root : Nat) (d : Array EL) (n : Nat), hi - root = k → root ≤ hi → first + hi ≤ d.size → d.size < 4294967296 → (hi = 0 ∨ root < hi) → k < n →
    iterO siftE_s0 n ((rep d), (hi : Int), (first : Int), (root : Int), ()) = some (.inl ((rep (siftDown ltX hi first root d)), ())) ∨
    iterO siftE_s0 n ((rep d), (hi : Int), (first : Int), (root : Int), ()) = some (.inr (.inl ((rep (siftDown ltX hi first root d)), ()))) := by
  intro k
  induction k using Nat.strongRecOn with
  | _ k ih =>
  intro root d n hk hr hf hs hz hn
  obtain ⟨n, rfl⟩ : ∃ k, n = k + 1 := ⟨n - 1, by omega⟩
  rw [siftDown]
  simp (disch := omega) only [iterO, siftE_s0, wrap_2mul, wrap_add1, wrap_add, ile_nat, ilt_nat]
  by_cases h1 : hi ≤ 2 * root + 1
  · simp only [h1, decide_true, ge_iff_le, dite_true, true_or]
  · have i0 : first + root < d.size := by omega
    have i1 : first + (2 * root + 1) < d.size := by omega
    simp only [h1, decide_false, ge_iff_le, if_false, dite_false]
    simp (disch := omega) only [idx_at, dget_at, eta3, less_val, less_lt]
    by_cases h2 : 2 * root + 1 + 1 < hi
    · have i2 : first + (2 * root + 2) < d.size := by omega
      have i3 : 2 * root + 1 + 1 = 2 * root + 2 := by omega
      have i4 : first + (2 * root + 1) + 1 = first + (2 * root + 2) := by omega
      have h3 : 2 * root + 2 < hi := by omega
      simp only [i3, i4, h3, decide_true]
      simp (disch := omega) only [idx_at, dget_at, eta3, less_val, less_lt, eta3, dset_at]
      cases h4 : ltX d[first + (2 * root + 1)]! d[first + (2 * root + 2)]!
      · simp only [Bool.and_false, Bool.false_eq_true, if_false]
        cases h5 : ltX d[first + root]! d[first + (2 * root + 1)]!
        · simp
        · simp only [Bool.not_true, Bool.false_eq_true, if_false]
          rw [idx_at (by simpa using i1)]
          simp only [swp_fold]
          exact ih (hi - (2 * root + 1)) (by omega) (2 * root + 1) _ n rfl (by omega) (by rw [size_swp]; omega) (by rw [size_swp]; omega) (by omega) (by omega)
      · simp only [Bool.and_true, if_true]
        cases h5 : ltX d[first + root]! d[first + (2 * root + 2)]!
        · simp
        · simp only [Bool.not_true, Bool.false_eq_true, if_false, dite_true]
          rw [idx_at (by simpa using i2)]
          simp only [swp_fold]
          exact ih (hi - (2 * root + 2)) (by omega) (2 * root + 2) _ n rfl (by omega) (by rw [size_swp]; omega) (by rw [size_swp]; omega) (by omega) (by omega)
    · simp only [h2, decide_false, Bool.false_and, Bool.false_eq_true, if_false, eta3, dset_at]
      cases h5 : ltX d[first + root]! d[first + (2 * root + 1)]!
      · simp
      · simp only [Bool.not_true, Bool.false_eq_true, if_false]
        rw [idx_at (by simpa using i1)]
        simp only [swp_fold]
        exact ih (hi - (2 * root + 1)) (by omega) (2 * root + 1) _ n rfl (by omega) (by rw [size_swp]; omega) (by rw [size_swp]; omega) (by omega) (by omega)
theorem siftE_val (d : Array EL) (root hi first : Nat) (hf : first + hi ≤ d.size) (hs : d.size < 4294967296) (hz : hi = 0 ∧ root = 0 ∨ root < hi) : siftE ((rep d), (root : Int), (hi : Int), (first : Int), ()) = some ((rep (siftDown ltX hi first root d)), ()) := by
  have hm : d.size < many := by simp only [many]; omega
  rw [siftE_eq, siftE_d]
  simp only [iterL_eq]
  rcases siftE_loop hi first (hi - root) root d many rfl (by omega) hf hs (by omega) (by omega) with h | h <;> rw [h]
theorem size_siftDown (lt : EL → EL → Bool) (hi first : Nat) : ∀ (k root : Nat) (d : Array EL), hi - root = k → (siftDown lt hi first root d).size = d.size := by
  intro k
  induction k using Nat.strongRecOn with
  | _ k ih =>
  intro root d hk
  rw [siftDown]
  split
  · rfl
  · split
    · split
      · rfl
      · split
        · rw [ih (hi - (2 * root + 2)) (by omega) _ _ rfl, size_swp]
        · rfl
    · split
      · rfl
      · rw [ih (hi - (2 * root + 1)) (by omega) _ _ rfl, size_swp]
theorem heapE_build (hi first : Nat) : ∀ (k : Nat) (d : Array EL) (n : Nat), (hi = 0 ∧ k ≤ 1 ∨ k ≤ hi) → first + hi ≤ d.size → d.size < 4294967296 → k < n →
    iterO heapE_s0 n ((rep d), (first : Int), (0 : Int), (hi : Int), (k : Int) - 1, ()) = some (.inl ((rep (heapBuild ltX hi first k d)), (first : Int), (0 : Int), (hi : Int), ())) := by
  intro k
  induction k with
  | zero =>
    intro d n hk hf hs hn
    obtain ⟨n, rfl⟩ : ∃ k, n = k + 1 := ⟨n - 1, by omega⟩
    rw [iterO, heapE_s0, ile_eq, decide_eq_false (by omega)]
    rfl
  | succ k ih =>
    intro d n hk hf hs hn
    obtain ⟨n, rfl⟩ : ∃ k, n = k + 1 := ⟨n - 1, by omega⟩
    have e0 : ((k + 1 : Nat) : Int) - 1 = (k : Int) := by omega
    rw [iterO, heapE_s0, e0, ile_eq, decide_eq_true (by omega)]
    simp only [siftE_val d k hi first hf hs (by omega)]
    rw [wrap_in (by omega)]
    exact ih _ n (by omega) (by rw [size_siftDown _ _ _ _ _ _ rfl]; omega) (by rw [size_siftDown _ _ _ _ _ _ rfl]; omega) (by omega)
theorem size_heapBuild (lt : EL → EL → Bool) (hi first : Nat) : ∀ (k : Nat) (d : Array EL), (heapBuild lt hi first k d).size = d.size := by
  intro k
  induction k with
  | zero => intro d; rfl
  | succ k ih => intro d; rw [heapBuild, ih, size_siftDown _ _ _ _ _ _ rfl]
theorem heapE_pop (first : Nat) : ∀ (k : Nat) (d : Array EL) (n : Nat), first + k ≤ d.size → d.size < 4294967296 → k < n →
    iterO heapE_s1 n ((rep d), (first : Int), (0 : Int), (k : Int) - 1, ()) = some (.inl ((rep (heapPop ltX first k d)), ())) := by
  intro k
  induction k with
  | zero =>
    intro d n hf hs hn
    obtain ⟨n, rfl⟩ : ∃ k, n = k + 1 := ⟨n - 1, by omega⟩
    rw [iterO, heapE_s1, ile_eq, decide_eq_false (by omega)]
    rfl
  | succ k ih =>
    intro d n hf hs hn
    obtain ⟨n, rfl⟩ : ∃ k, n = k + 1 := ⟨n - 1, by omega⟩
    have e0 : ((k + 1 : Nat) : Int) - 1 = (k : Int) := by omega
    have i0 : first < d.size := by omega
    have i1 : first + k < d.size := by omega
    rw [iterO, heapE_s1, e0, ile_eq, decide_eq_true (by omega)]
    simp (disch := omega) only [wrap_add, idx_at, dget_at, eta3, dset_at]
    rw [idx_at (by simpa using i1)]
    simp only [swp_fold]
    have := siftE_val (swp d first (first + k)) 0 k first (by rw [size_swp]; omega) (by rw [size_swp]; omega) (by omega)
    simp only [Int.natCast_zero] at this
    simp only [this]
    rw [wrap_in (by omega)]
    exact ih _ n (by rw [size_siftDown _ _ _ _ _ _ rfl, size_swp]; omega) (by rw [size_siftDown _ _ _ _ _ _ rfl, size_swp]; omega) (by omega)
theorem heapE_val (d : Array EL) (a b : Nat) (hab : a < b) (hb : b ≤ d.size) (hs : d.size < 4294967296) : heapE ((rep d), (a : Int), (b : Int), ()) = some ((rep (heapSort ltX d a b)), ()) := by
  have hm : 4294967296 < many := by simp only [many]; omega
  rw [heapE_eq, heapE_d]
  simp (disch := omega) only [wrap_sub, wrap_sub1, quo_2, iterL_eq]
  have e : (((b - a - 1) / 2 : Nat) : Int) = (((b - a - 1) / 2 + 1 : Nat) : Int) - 1 := by omega
  rw [e, heapE_build (b - a) a _ d many (by omega) (by omega) hs (by omega)]
  have e2 : (((b - a - 1 : Nat)) : Int) = ((b - a : Nat) : Int) - 1 := by omega
  simp (disch := omega) only [wrap_sub1, e2]
  rw [heapE_pop a (b - a) _ many (by rw [size_heapBuild]; omega) (by rw [size_heapBuild]; omega) (by omega)]
  rfl
end Go.Pev.Pl.SE
end
section
namespace Go.Pev.Pl.SE
open Go.Sort
theorem revE_loop : ∀ (k i j : Nat) (d : Array EL) (n : Nat), j - i = k → (j < d.size) → d.size < 4294967296 → k < n →
    iterO revE_s0 n ((rep d), (i : Int), (j : Int), ()) = some (.inl ((rep (reverseLoop i j d)), ())) := by
  intro k
  induction k using Nat.strongRecOn with
  | _ k ih =>
  intro i j d n hk hj hs hn
  obtain ⟨n, rfl⟩ : ∃ k, n = k + 1 := ⟨n - 1, by omega⟩
  rw [reverseLoop, iterO, revE_s0]
  simp only [ilt_nat]
  by_cases h : i < j
  · have hi : i < d.size := by omega
    simp only [h, decide_true, if_true, idx_at hj, idx_at hi, dget_at hi, dget_at hj, eta3, dset_at]
    rw [idx_at (by simpa using hj)]
    simp (disch := omega) only [swp_fold, wrap_add1, wrap_sub1]
    exact ih (j - 1 - (i + 1)) (by omega) (i + 1) (j - 1) _ n rfl (by rw [size_swp]; omega) (by rw [size_swp]; omega) (by omega)
  · simp only [h, decide_false, if_false]
theorem revE_val (d : Array EL) (a b : Nat) (hab : a < b) (hb : b ≤ d.size) (hs : d.size < 4294967296) : revE ((rep d), (a : Int), (b : Int), ()) = some ((rep (reverseRange d a b)), ()) := by
  have hm : 4294967296 < many := by simp only [many]; omega
  rw [revE_eq, revE_d]
  simp (disch := omega) only [wrap_sub1, iterL_eq]
  rw [revE_loop (b - 1 - a) a (b - 1) d many rfl (by omega) hs (by omega)]
  rfl
theorem swapE {d : Array EL} {i j : Nat} (hi : i < d.size) (hj : j < d.size) : idx (dset (rep d) (dnat (i : Int)) (dget (rep d) (dnat (j : Int)) ((0 : Int), ((0 : Int), ())))) (j : Int) = some ((d.setIfInBounds i d[j]!)[j]!).val ∧
    dset (dset (rep d) (dnat (i : Int)) (dget (rep d) (dnat (j : Int)) ((0 : Int), ((0 : Int), ())))) (dnat (j : Int)) (dget (rep d) (dnat (i : Int)) ((0 : Int), ((0 : Int), ()))) = (rep (swp d i j)) := by
  rw [dget_at hi, dget_at hj, dset_at, dset_at]
  exact ⟨idx_at (by simpa using hj), rfl⟩
theorem scanUpE (step : List (Int × Int × Unit) × Int × Int × Int × Unit → Option ((List (Int × Int × Unit) × Int × Int × Int × Unit) ⊕ (List (Int × Int × Unit) × Int × Int × Int × Unit) ⊕ Unit)) (p : EL → Bool) (d : Array EL) (a j : Nat) (hs : d.size < 4294967296) (hj : j < d.size)
    (h : ∀ i : Nat, i ≤ d.size → step ((rep d), (a : Int), (i : Int), (j : Int), ()) = if i ≤ j ∧ p d[i]! then some (.inl ((rep d), (a : Int), ((i + 1 : Nat) : Int), (j : Int), ())) else some (.inr (.inl ((rep d), (a : Int), (i : Int), (j : Int), ())))) :
    ∀ (k i n : Nat), j + 1 - i = k → i ≤ d.size → k < n → iterO step n ((rep d), (a : Int), (i : Int), (j : Int), ()) = some (.inl ((rep d), (a : Int), ((scanUp p d j i : Nat) : Int), (j : Int), ())) := by
  intro k
  induction k using Nat.strongRecOn with
  | _ k ih =>
  intro i n hk hi hn
  obtain ⟨n, rfl⟩ : ∃ k, n = k + 1 := ⟨n - 1, by omega⟩
  rw [scanUp, iterO, h i hi]
  by_cases h1 : i ≤ j ∧ p d[i]! = true
  · rw [if_pos h1, if_pos (by simpa using h1)]
    exact ih (j + 1 - (i + 1)) (by omega) (i + 1) n rfl (by omega) (by omega)
  · rw [if_neg h1, if_neg (by simpa using h1)]
theorem scanDownE (step : List (Int × Int × Unit) × Int × Int × Int × Unit → Option ((List (Int × Int × Unit) × Int × Int × Int × Unit) ⊕ (List (Int × Int × Unit) × Int × Int × Int × Unit) ⊕ Unit)) (p : EL → Bool) (d : Array EL) (a i : Nat) (hi : 1 ≤ i)
    (h : ∀ j : Nat, j < d.size → step ((rep d), (a : Int), (i : Int), (j : Int), ()) = if i ≤ j ∧ p d[j]! then some (.inl ((rep d), (a : Int), (i : Int), ((j - 1 : Nat) : Int), ())) else some (.inr (.inl ((rep d), (a : Int), (i : Int), (j : Int), ())))) :
    ∀ (j n : Nat), j < d.size → j < n → iterO step n ((rep d), (a : Int), (i : Int), (j : Int), ()) = some (.inl ((rep d), (a : Int), (i : Int), ((scanDown p d i j : Nat) : Int), ())) := by
  intro j
  induction j with
  | zero =>
    intro n hj hn
    obtain ⟨n, rfl⟩ : ∃ k, n = k + 1 := ⟨n - 1, by omega⟩
    rw [iterO, h 0 hj, if_neg (by omega)]
    rfl
  | succ j ih =>
    intro n hj hn
    obtain ⟨n, rfl⟩ : ∃ k, n = k + 1 := ⟨n - 1, by omega⟩
    rw [scanDown, iterO, h (j + 1) hj]
    by_cases h1 : i ≤ j + 1 ∧ p d[j + 1]! = true
    · rw [if_pos h1, if_pos (by simpa using h1)]
      exact ih n (by omega) (by omega)
    · rw [if_neg h1, if_neg (by simpa using h1)]
section
variable (d : Array EL) (a i j : Nat) (hs : d.size < 4294967296) (ha : a < d.size) (hj : j < d.size)
include hs ha hj
theorem partE_s0_at (hi : i ≤ d.size) : partE_s0 ((rep d), (a : Int), (i : Int), (j : Int), ()) = if i ≤ j ∧ (fun x => ltX x d[a]!) d[i]! = true then some (.inl ((rep d), (a : Int), ((i + 1 : Nat) : Int), (j : Int), ())) else some (.inr (.inl ((rep d), (a : Int), (i : Int), (j : Int), ()))) := by
  rw [partE_s0]
  simp only [ile_nat]
  by_cases h : i ≤ j
  · have hi' : i < d.size := by omega
    simp (disch := omega) only [h, decide_true, idx_at, dget_at, eta3, less_val, less_lt, wrap_add1, true_and]
    cases ltX d[i]! d[a]! <;> simp
  · simp only [h, decide_false, false_and, if_false]
theorem partE_s3_at (hi : i ≤ d.size) : partE_s3 ((rep d), (a : Int), (i : Int), (j : Int), ()) = if i ≤ j ∧ (fun x => ltX x d[a]!) d[i]! = true then some (.inl ((rep d), (a : Int), ((i + 1 : Nat) : Int), (j : Int), ())) else some (.inr (.inl ((rep d), (a : Int), (i : Int), (j : Int), ()))) := by
  rw [partE_s3]
  simp only [ile_nat]
  by_cases h : i ≤ j
  · have hi' : i < d.size := by omega
    simp (disch := omega) only [h, decide_true, idx_at, dget_at, eta3, less_val, less_lt, wrap_add1, true_and]
    cases ltX d[i]! d[a]! <;> simp
  · simp only [h, decide_false, false_and, if_false]
theorem partE_s1_at (hi : 1 ≤ i) : partE_s1 ((rep d), (a : Int), (i : Int), (j : Int), ()) = if i ≤ j ∧ (fun x => !ltX x d[a]!) d[j]! = true then some (.inl ((rep d), (a : Int), (i : Int), ((j - 1 : Nat) : Int), ())) else some (.inr (.inl ((rep d), (a : Int), (i : Int), (j : Int), ()))) := by
  rw [partE_s1]
  simp only [ile_nat]
  by_cases h : i ≤ j
  · simp (disch := omega) only [h, decide_true, idx_at, dget_at, eta3, less_val, less_lt, wrap_sub1, true_and]
    cases ltX d[j]! d[a]! <;> simp
  · simp only [h, decide_false, false_and, if_false]
theorem partE_s4_at (hi : 1 ≤ i) : partE_s4 ((rep d), (a : Int), (i : Int), (j : Int), ()) = if i ≤ j ∧ (fun x => !ltX x d[a]!) d[j]! = true then some (.inl ((rep d), (a : Int), (i : Int), ((j - 1 : Nat) : Int), ())) else some (.inr (.inl ((rep d), (a : Int), (i : Int), (j : Int), ()))) := by
  rw [partE_s4]
  simp only [ile_nat]
  by_cases h : i ≤ j
  · simp (disch := omega) only [h, decide_true, idx_at, dget_at, eta3, less_val, less_lt, wrap_sub1, true_and]
    cases ltX d[j]! d[a]! <;> simp
  · simp only [h, decide_false, false_and, if_false]
theorem partEqE_s1_at (hi : i ≤ d.size) : partEqE_s1 ((rep d), (a : Int), (i : Int), (j : Int), ()) = if i ≤ j ∧ (fun x => !ltX d[a]! x) d[i]! = true then some (.inl ((rep d), (a : Int), ((i + 1 : Nat) : Int), (j : Int), ())) else some (.inr (.inl ((rep d), (a : Int), (i : Int), (j : Int), ()))) := by
  rw [partEqE_s1]
  simp only [ile_nat]
  by_cases h : i ≤ j
  · have hi' : i < d.size := by omega
    simp (disch := omega) only [h, decide_true, idx_at, dget_at, eta3, less_val, less_lt, wrap_add1, true_and]
    cases ltX d[a]! d[i]! <;> simp
  · simp only [h, decide_false, false_and, if_false]
theorem partEqE_s2_at (hi : 1 ≤ i) : partEqE_s2 ((rep d), (a : Int), (i : Int), (j : Int), ()) = if i ≤ j ∧ (fun x => ltX d[a]! x) d[j]! = true then some (.inl ((rep d), (a : Int), (i : Int), ((j - 1 : Nat) : Int), ())) else some (.inr (.inl ((rep d), (a : Int), (i : Int), (j : Int), ()))) := by
  rw [partEqE_s2]
  simp only [ile_nat]
  by_cases h : i ≤ j
  · simp (disch := omega) only [h, decide_true, idx_at, dget_at, eta3, less_val, less_lt, wrap_sub1, true_and]
    cases ltX d[a]! d[j]! <;> simp
  · simp only [h, decide_false, false_and, if_false]
end
theorem scanUp_size (p : EL → Bool) (d : Array EL) (j i : Nat) (hj : j < d.size) (hi : i ≤ d.size) : scanUp p d j i ≤ d.size := by
  suffices h : ∀ (k i : Nat), j + 1 - i = k → i ≤ d.size → scanUp p d j i ≤ d.size from h _ i rfl hi
  intro k
  induction k using Nat.strongRecOn with
  | _ k ih =>
  intro i hk hi
  rw [scanUp]
  split
  · rename_i h
    have : i ≤ j := by simp at h; exact h.1
    exact ih (j + 1 - (i + 1)) (by omega) (i + 1) rfl (by omega)
  · exact hi
theorem partE_loop (a : Nat) : ∀ (k i j : Nat) (d : Array EL) (n : Nat), j + 1 - i = k → a < d.size → 1 ≤ i → i ≤ d.size → j < d.size → d.size < 4294967296 → k < n →
    iterO partE_s2 n ((rep d), (a : Int), (i : Int), (j : Int), ()) = some (.inl ((rep (partLoop ltX a i j d).2), (a : Int), (((partLoop ltX a i j d).1 : Nat) : Int), ())) ∧ (partLoop ltX a i j d).1 ≤ j ∧ (partLoop ltX a i j d).2.size = d.size := by
  intro k
  induction k using Nat.strongRecOn with
  | _ k ih =>
  intro i j d n hk ha hi hi' hj hs hn
  have hm : 4294967296 < many := by simp only [many]; omega
  obtain ⟨n, rfl⟩ : ∃ k, n = k + 1 := ⟨n - 1, by omega⟩
  rw [partLoop_eq, iterO, partE_s2]
  have u1 := scanUp_ge (fun x => ltX x d[a]!) d j i
  have u2 := scanUp_size (fun x => ltX x d[a]!) d j i hj hi'
  rw [iterL_eq, scanUpE _ (fun x => ltX x d[a]!) d a j hs hj (fun i h => partE_s3_at d a i j hs ha hj h) _ i many rfl hi' (by omega)]
  generalize scanUp (fun x => ltX x d[a]!) d j i = i2 at *
  have v1 := scanDown_le (fun x => !ltX x d[a]!) d i2 j
  simp only [iterL_eq]
  rw [scanDownE _ (fun x => !ltX x d[a]!) d a i2 (by omega) (fun j h => partE_s4_at d a i2 j hs ha h (by omega)) j many hj (by omega)]
  generalize scanDown (fun x => !ltX x d[a]!) d i2 j = j2 at *
  simp only [ilt_nat]
  by_cases h : j2 < i2
  · simp only [h, decide_true, gt_iff_lt, if_true]
    exact ⟨trivial, v1, trivial⟩
  · have hi2 : i2 < d.size := by omega
    have hj2 : j2 < d.size := by omega
    simp only [h, decide_false, gt_iff_lt, if_false, idx_at hi2, idx_at hj2, eta3, (swapE hi2 hj2).1, (swapE hi2 hj2).2]
    simp (disch := omega) only [wrap_add1, wrap_sub1]
    obtain ⟨q1, q2, q3⟩ := ih (j2 - 1 + 1 - (i2 + 1)) (by omega) (i2 + 1) (j2 - 1) (swp d i2 j2) n rfl (by rw [size_swp]; omega) (by omega) (by rw [size_swp]; omega) (by rw [size_swp]; omega) (by rw [size_swp]; omega) (by omega)
    exact ⟨q1, by omega, by rw [q3, size_swp]⟩
theorem partE_val (d : Array EL) (a b p : Nat) (ha : a ≤ p) (hp : p < b) (hb : b ≤ d.size) (hs : d.size < 4294967296) :
    partE ((rep d), (a : Int), (b : Int), (p : Int), ()) = some ((rep (partition ltX d a b p).2.2), (((partition ltX d a b p).1 : Nat) : Int), (partition ltX d a b p).2.1, ()) := by
  have hm : 4294967296 < many := by simp only [many]; omega
  have ha' : a < d.size := by omega
  have hp' : p < d.size := by omega
  rw [partE_eq, partE_d, partition]
  simp only [idx_at ha', idx_at hp', eta3, (swapE ha' hp').1, (swapE ha' hp').2]
  have hs' := hs
  rw [← size_swp d a p] at ha' hs' hb
  generalize swp d a p = d at *
  simp (disch := omega) only [wrap_add1, wrap_sub1, iterL_eq]
  have u1 := scanUp_ge (fun x => ltX x d[a]!) d (b - 1) (a + 1)
  have u2 := scanUp_size (fun x => ltX x d[a]!) d (b - 1) (a + 1) (by omega) (by omega)
  rw [scanUpE _ (fun x => ltX x d[a]!) d a (b - 1) hs' (by omega) (fun i h => partE_s0_at d a i (b - 1) hs' ha' (by omega) h) _ (a + 1) many rfl (by omega) (by omega)]
  generalize scanUp (fun x => ltX x d[a]!) d (b - 1) (a + 1) = i2 at *
  have v1 := scanDown_le (fun x => !ltX x d[a]!) d i2 (b - 1)
  simp only []
  rw [scanDownE _ (fun x => !ltX x d[a]!) d a i2 (by omega) (fun j h => partE_s1_at d a i2 j hs' ha' h (by omega)) (b - 1) many (by omega) (by omega)]
  generalize scanDown (fun x => !ltX x d[a]!) d i2 (b - 1) = j2 at *
  simp only [ilt_nat]
  have hj2 : j2 < d.size := by omega
  by_cases h : j2 < i2
  · simp only [h, decide_true, gt_iff_lt, if_true, idx_at ha', idx_at hj2, eta3, (swapE hj2 ha').1, (swapE hj2 ha').2]
  · have hi2 : i2 < d.size := by omega
    simp only [h, decide_false, gt_iff_lt, if_false, idx_at hi2, idx_at hj2, eta3, (swapE hi2 hj2).1, (swapE hi2 hj2).2]
    simp (disch := omega) only [wrap_add1, wrap_sub1]
    obtain ⟨q1, q2, q3⟩ := partE_loop a (j2 - 1 + 1 - (i2 + 1)) (i2 + 1) (j2 - 1) (swp d i2 j2) many rfl (by rw [size_swp]; omega) (by omega) (by rw [size_swp]; omega) (by rw [size_swp]; omega) (by rw [size_swp]; omega) (by omega)
    simp only [q1]
    rw [size_swp] at q3
    generalize partLoop ltX a (i2 + 1) (j2 - 1) (swp d i2 j2) = r at *
    have h1 : r.1 < r.2.size := by omega
    have h2 : a < r.2.size := by omega
    simp only [idx_at h1, idx_at h2, eta3, (swapE h1 h2).1, (swapE h1 h2).2]
theorem partEqE_loop (a : Nat) : ∀ (k i j : Nat) (d : Array EL) (n : Nat), j + 1 - i = k → a < d.size → 1 ≤ i → i ≤ d.size → j < d.size → d.size < 4294967296 → k < n →
    iterO partEqE_s0 n ((rep d), (a : Int), (i : Int), (j : Int), ()) = some (.inl ((rep (partEqLoop ltX a i j d).2), (((partEqLoop ltX a i j d).1 : Nat) : Int), ())) := by
  intro k
  induction k using Nat.strongRecOn with
  | _ k ih =>
  intro i j d n hk ha hi hi' hj hs hn
  have hm : 4294967296 < many := by simp only [many]; omega
  obtain ⟨n, rfl⟩ : ∃ k, n = k + 1 := ⟨n - 1, by omega⟩
  rw [partEqLoop_eq, iterO, partEqE_s0]
  have u1 := scanUp_ge (fun x => !ltX d[a]! x) d j i
  have u2 := scanUp_size (fun x => !ltX d[a]! x) d j i hj hi'
  rw [iterL_eq, scanUpE _ (fun x => !ltX d[a]! x) d a j hs hj (fun i h => partEqE_s1_at d a i j hs ha hj h) _ i many rfl hi' (by omega)]
  generalize scanUp (fun x => !ltX d[a]! x) d j i = i2 at *
  have v1 := scanDown_le (fun x => ltX d[a]! x) d i2 j
  simp only [iterL_eq]
  rw [scanDownE _ (fun x => ltX d[a]! x) d a i2 (by omega) (fun j h => partEqE_s2_at d a i2 j hs ha h (by omega)) j many hj (by omega)]
  generalize scanDown (fun x => ltX d[a]! x) d i2 j = j2 at *
  simp only [ilt_nat]
  by_cases h : j2 < i2
  · simp only [h, decide_true, gt_iff_lt, if_true]
  · have hi2 : i2 < d.size := by omega
    have hj2 : j2 < d.size := by omega
    simp only [h, decide_false, gt_iff_lt, if_false, idx_at hi2, idx_at hj2, eta3, (swapE hi2 hj2).1, (swapE hi2 hj2).2]
    simp (disch := omega) only [wrap_add1, wrap_sub1]
    exact ih (j2 - 1 + 1 - (i2 + 1)) (by omega) (i2 + 1) (j2 - 1) (swp d i2 j2) n rfl (by rw [size_swp]; omega) (by omega) (by rw [size_swp]; omega) (by rw [size_swp]; omega) (by rw [size_swp]; omega) (by omega)
theorem partEqE_val (d : Array EL) (a b p : Nat) (ha : a ≤ p) (hp : p < b) (hb : b ≤ d.size) (hs : d.size < 4294967296) :
    partEqE ((rep d), (a : Int), (b : Int), (p : Int), ()) = some ((rep (partitionEqual ltX d a b p).2), (((partitionEqual ltX d a b p).1 : Nat) : Int), ()) := by
  have hm : 4294967296 < many := by simp only [many]; omega
  have ha' : a < d.size := by omega
  have hp' : p < d.size := by omega
  rw [partEqE_eq, partEqE_d, partitionEqual]
  simp only [idx_at ha', idx_at hp', eta3, (swapE ha' hp').1, (swapE ha' hp').2]
  have hs' := hs
  rw [← size_swp d a p] at ha' hs' hb
  generalize swp d a p = d at *
  simp (disch := omega) only [wrap_add1, wrap_sub1, iterL_eq]
  rw [partEqE_loop a _ (a + 1) (b - 1) d many rfl ha' (by omega) (by omega) (by omega) hs' (by omega)]
end Go.Pev.Pl.SE
end
section
namespace Go.Pev.Pl.SE
open Go.Sort
theorem scanSorted_bounds (d : Array EL) (b : Nat) : ∀ (k i : Nat), b - i = k → i ≤ b → i ≤ scanSorted ltX d b i ∧ scanSorted ltX d b i ≤ b := by
  intro k
  induction k using Nat.strongRecOn with
  | _ k ih =>
  intro i hk hi
  rw [scanSorted]
  split
  · rename_i h
    have : i < b := by simp at h; exact h.1
    have := ih (b - (i + 1)) (by omega) (i + 1) rfl (by omega)
    omega
  · omega
theorem partInsE_scan (d : Array EL) (a b s : Nat) (hb : b ≤ d.size) (hs : d.size < 4294967296) : ∀ (k i n : Nat), b - i = k → 1 ≤ i → i ≤ b → k < n →
    iterO partInsE_s1 n ((rep d), (a : Int), (b : Int), (i : Int), (s : Int), ()) = some (.inl ((rep d), (a : Int), (b : Int), ((scanSorted ltX d b i : Nat) : Int), (s : Int), ())) := by
  intro k
  induction k using Nat.strongRecOn with
  | _ k ih =>
  intro i n hk h1 hi hn
  obtain ⟨n, rfl⟩ : ∃ k, n = k + 1 := ⟨n - 1, by omega⟩
  rw [scanSorted, iterO, partInsE_s1]
  simp only [ilt_nat]
  by_cases h : i < b
  · have i0 : i < d.size := by omega
    have i1 : i - 1 < d.size := by omega
    simp (disch := omega) only [h, decide_true, wrap_sub1, wrap_add1, idx_at, dget_at, eta3, less_val, less_lt, Bool.true_and]
    cases h2 : ltX d[i]! d[i - 1]!
    · simp only [Bool.not_false, if_true]
      exact ih (b - (i + 1)) (by omega) (i + 1) n rfl (by omega) (by omega) (by omega)
    · simp only [Bool.not_true, Bool.false_eq_true, if_false]
  · simp only [h, decide_false, Bool.false_and, Bool.false_eq_true, if_false]
theorem partInsE_down (a b i s : Nat) : ∀ (j : Nat) (d : Array EL) (n : Nat), j < d.size → d.size < 4294967296 → j < n →
    iterO partInsE_s2 n ((rep d), (a : Int), (b : Int), (i : Int), (s : Int), (j : Int), ()) = some (.inl ((rep (shiftDown ltX j d)), (a : Int), (b : Int), (i : Int), (s : Int), ())) := by
  intro j
  induction j with
  | zero =>
    intro d n hj hs hn
    obtain ⟨n, rfl⟩ : ∃ k, n = k + 1 := ⟨n - 1, by omega⟩
    rw [iterO, partInsE_s2, ile_eq, decide_eq_false (by omega)]
    rfl
  | succ j ih =>
    intro d n hj hs hn
    obtain ⟨n, rfl⟩ : ∃ k, n = k + 1 := ⟨n - 1, by omega⟩
    have hj' : j < d.size := by omega
    rw [shiftDown, iterO, partInsE_s2, ile_eq, decide_eq_true (by omega)]
    simp (disch := omega) only [wrap_sub1, Nat.add_sub_cancel, idx_at, dget_at, eta3, less_val, less_lt]
    cases h2 : ltX d[j + 1]! d[j]!
    · simp only [Bool.not_false, if_true]
    · have e1 := swapE hj hj'
      simp only [dget_at hj, dget_at hj'] at e1
      simp only [Bool.not_true, Bool.false_eq_true, if_false, e1]
      exact ih _ n (by rw [size_swp]; omega) (by rw [size_swp]; omega) (by omega)
theorem partInsE_up (a b i s : Nat) : ∀ (k j : Nat) (d : Array EL) (n : Nat), b - j = k → 1 ≤ j → b ≤ d.size → d.size < 4294967296 → k < n →
    iterO partInsE_s3 n ((rep d), (a : Int), (b : Int), (i : Int), (s : Int), (j : Int), ()) = some (.inl ((rep (shiftUp ltX b j d)), (a : Int), (b : Int), (i : Int), (s : Int), ())) := by
  intro k
  induction k using Nat.strongRecOn with
  | _ k ih =>
  intro j d n hk h1 hb hs hn
  obtain ⟨n, rfl⟩ : ∃ k, n = k + 1 := ⟨n - 1, by omega⟩
  rw [shiftUp, iterO, partInsE_s3]
  simp only [ilt_nat]
  by_cases h : j < b
  · have i0 : j < d.size := by omega
    have i1 : j - 1 < d.size := by omega
    simp (disch := omega) only [h, decide_true, if_true, wrap_sub1, wrap_add1, idx_at, dget_at, eta3, less_val, less_lt]
    cases h2 : ltX d[j]! d[j - 1]!
    · simp only [Bool.not_false, if_true]
    · have e1 := swapE i0 i1
      simp only [dget_at i0, dget_at i1] at e1
      simp only [Bool.not_true, Bool.false_eq_true, if_false, e1]
      exact ih (b - (j + 1)) (by omega) (j + 1) _ n rfl (by omega) (by rw [size_swp]; omega) (by rw [size_swp]; omega) (by omega)
  · simp only [h, decide_false, if_false]
theorem size_shiftDown : ∀ (j : Nat) (d : Array EL), (shiftDown ltX j d).size = d.size := by
  intro j
  induction j with
  | zero => intro d; rfl
  | succ j ih =>
    intro d
    rw [shiftDown]
    split
    · rfl
    · rw [ih, size_swp]
theorem size_shiftUp (b : Nat) : ∀ (k j : Nat) (d : Array EL), b - j = k → (shiftUp ltX b j d).size = d.size := by
  intro k
  induction k using Nat.strongRecOn with
  | _ k ih =>
  intro j d hk
  rw [shiftUp]
  split
  · split
    · rfl
    · rw [ih (b - (j + 1)) (by omega) (j + 1) _ rfl, size_swp]
  · rfl
theorem partInsE_loop (a b : Nat) (hab : a < b) : ∀ (k i s : Nat) (d : Array EL) (n : Nat), s + k = 5 → a + 1 ≤ i → i ≤ b → b ≤ d.size → d.size < 4294967296 → k < n →
    iterO partInsE_s0 n ((rep d), (a : Int), (b : Int), (i : Int), (s : Int), ()) = some (.inl ((rep (partialIns ltX a b k i d).1), (partialIns ltX a b k i d).2, ())) ∨
    ((partialIns ltX a b k i d).2 = false ∧ iterO partInsE_s0 n ((rep d), (a : Int), (b : Int), (i : Int), (s : Int), ()) = some (.inr (.inl ((rep (partialIns ltX a b k i d).1), ())))) := by
  intro k
  induction k with
  | zero =>
    intro i s d n hk h1 hi hb hs hn
    obtain ⟨n, rfl⟩ : ∃ k, n = k + 1 := ⟨n - 1, by omega⟩
    rw [iterO, partInsE_s0, ilt_eq, decide_eq_false (by omega)]
    exact .inr ⟨rfl, rfl⟩
  | succ k ih =>
    intro i s d n hk h1 hi hb hs hn
    have hm : 4294967296 < many := by simp only [many]; omega
    have es : IntKind.wrap .i64 ((s : Int) + 1) = ((s + 1 : Nat) : Int) := wrap_add1 (by omega)
    obtain ⟨n, rfl⟩ : ∃ k, n = k + 1 := ⟨n - 1, by omega⟩
    rw [iterO, partInsE_s0, ilt_eq, decide_eq_true (by omega), partialIns]
    simp only [iterL_eq, partInsE_scan d a b s hb hs (b - i) i many rfl (by omega) hi (by omega)]
    have hsc := scanSorted_bounds d b _ i rfl hi
    generalize scanSorted ltX d b i = i2 at *
    simp only [ieq_nat]
    by_cases h2 : i2 = b
    · simp only [h2, decide_true, if_true, true_or]
    · simp (disch := omega) only [h2, decide_false, if_false, wrap_sub, ilt_eq, ile_eq]
      by_cases h3 : b - a < 50
      · rw [if_pos h3, decide_eq_true (by omega)]
        exact .inl rfl
      · have i0 : i2 < d.size := by omega
        have i1 : i2 - 1 < d.size := by omega
        rw [if_neg h3, decide_eq_false (by omega)]
        simp (disch := omega) only [wrap_sub1, wrap_add1, idx_at i0, idx_at i1, eta3, (swapE i0 i1).1, (swapE i0 i1).2]
        have hsz := size_swp d i2 (i2 - 1)
        generalize swp d i2 (i2 - 1) = d2 at *
        by_cases h4 : i2 - a ≥ 2
        · rw [if_pos h4, decide_eq_true (show (2 : Int) ≤ ((i2 - a : Nat) : Int) by omega)]
          simp only [partInsE_down a b i2 s (i2 - 1) d2 many (by omega) (by omega) (by omega)]
          have hsz2 := size_shiftDown (i2 - 1) d2
          generalize shiftDown ltX (i2 - 1) d2 = d3 at *
          simp (disch := omega) only [wrap_sub, wrap_add1]
          by_cases h5 : b - i2 ≥ 2
          · rw [if_pos h5, decide_eq_true (show (2 : Int) ≤ ((b - i2 : Nat) : Int) by omega)]
            simp only [partInsE_up a b i2 s _ (i2 + 1) d3 many rfl (by omega) (by omega) (by omega) (by omega)]
            simp only [es]
            exact ih i2 (s + 1) (shiftUp ltX b (i2 + 1) d3) n (by omega) (by omega) (by omega) (by rw [size_shiftUp b (b - (i2 + 1)) (i2 + 1) _ rfl]; omega) (by rw [size_shiftUp b (b - (i2 + 1)) (i2 + 1) _ rfl]; omega) (by omega)
          · rw [if_neg h5, decide_eq_false (show ¬ (2 : Int) ≤ ((b - i2 : Nat) : Int) by omega)]
            simp only [es]
            exact ih i2 (s + 1) d3 n (by omega) (by omega) (by omega) (by omega) (by omega) (by omega)
        · rw [if_neg h4, decide_eq_false (show ¬ (2 : Int) ≤ ((i2 - a : Nat) : Int) by omega)]
          by_cases h5 : b - i2 ≥ 2
          · rw [if_pos h5, decide_eq_true (show (2 : Int) ≤ ((b - i2 : Nat) : Int) by omega)]
            simp only [partInsE_up a b i2 s _ (i2 + 1) d2 many rfl (by omega) (by omega) (by omega) (by omega)]
            simp only [es]
            exact ih i2 (s + 1) (shiftUp ltX b (i2 + 1) d2) n (by omega) (by omega) (by omega) (by rw [size_shiftUp b (b - (i2 + 1)) (i2 + 1) _ rfl]; omega) (by rw [size_shiftUp b (b - (i2 + 1)) (i2 + 1) _ rfl]; omega) (by omega)
          · rw [if_neg h5, decide_eq_false (show ¬ (2 : Int) ≤ ((b - i2 : Nat) : Int) by omega)]
            simp only [es]
            exact ih i2 (s + 1) d2 n (by omega) (by omega) (by omega) (by omega) (by omega) (by omega)
theorem partInsE_val (d : Array EL) (a b : Nat) (hab : a < b) (hb : b ≤ d.size) (hs : d.size < 4294967296) :
    partInsE ((rep d), (a : Int), (b : Int), ()) = some ((rep (partialInsertionSort ltX d a b).1), (partialInsertionSort ltX d a b).2, ()) := by
  have hm : 4294967296 < many := by simp only [many]; omega
  rw [partInsE_eq, partInsE_d, partialInsertionSort]
  simp (disch := omega) only [wrap_add1, iterL_eq]
  have h := partInsE_loop a b hab 5 (a + 1) 0 d many rfl (Nat.le_refl _) (by omega) hb hs (by omega)
  rcases h with h | ⟨h0, h⟩
  · have h' : iterO partInsE_s0 many ((rep d), (a : Int), (b : Int), ((a + 1 : Nat) : Int), (0 : Int), ()) = _ := h
    rw [h']
  · have h' : iterO partInsE_s0 many ((rep d), (a : Int), (b : Int), ((a + 1 : Nat) : Int), (0 : Int), ()) = _ := h
    rw [h', h0]
theorem order2E_val (d : Array EL) (a b : Nat) (s : Int) (ha : a < d.size) (hb : b < d.size) :
    ∃ s' p q, order2E ((rep d), (a : Int), (b : Int), s, ()) = some ((rep d), s', ((p : Nat) : Int), ((q : Nat) : Int), ()) ∧ (p = a ∧ q = b ∨ p = b ∧ q = a) := by
  rw [order2E_eq, order2E_d]
  simp only [idx_at ha, idx_at hb, dget_at ha, dget_at hb, eta3, less_val, less_lt]
  cases ltX d[b]! d[a]!
  · exact ⟨_, a, b, rfl, .inl ⟨rfl, rfl⟩⟩
  · exact ⟨_, b, a, rfl, .inr ⟨rfl, rfl⟩⟩
theorem medianE_val (d : Array EL) (a b c : Nat) (s : Int) (ha : a < d.size) (hb : b < d.size) (hc : c < d.size) :
    ∃ s' p, medianE ((rep d), (a : Int), (b : Int), (c : Int), s, ()) = some ((rep d), s', ((p : Nat) : Int), ()) ∧ (p = a ∨ p = b ∨ p = c) := by
  rw [medianE_eq, medianE_d]
  obtain ⟨s1, p1, q1, e1, h1⟩ := order2E_val d a b s ha hb
  simp only [e1]
  obtain ⟨s2, p2, q2, e2, h2⟩ := order2E_val d q1 c s1 (by omega) hc
  simp only [e2]
  obtain ⟨s3, p3, q3, e3, h3⟩ := order2E_val d p1 p2 s2 (by omega) (by omega)
  simp only [e3]
  exact ⟨_, q3, rfl, by omega⟩
theorem medAdjE_val (d : Array EL) (a : Nat) (s : Int) (h1 : 1 ≤ a) (ha : a + 1 < d.size) (hs : d.size < 4294967296) :
    ∃ s' p, medAdjE ((rep d), (a : Int), s, ()) = some ((rep d), s', ((p : Nat) : Int), ()) ∧ a ≤ p + 1 ∧ p ≤ a + 1 := by
  rw [medAdjE_eq, medAdjE_d]
  simp (disch := omega) only [wrap_sub1, wrap_add1]
  obtain ⟨s1, p1, e1, h1⟩ := medianE_val d (a - 1) a (a + 1) s (by omega) (by omega) ha
  simp only [e1]
  exact ⟨_, p1, rfl, by omega⟩
theorem pivotE_val (d : Array EL) (a b : Nat) (hab : a + 8 ≤ b) (hb : b ≤ d.size) (hs : d.size < 4294967296) :
    ∃ p h, pivotE ((rep d), (a : Int), (b : Int), ()) = some ((rep d), ((p : Nat) : Int), h, ()) ∧ a ≤ p ∧ p < b := by
  rw [pivotE_eq, pivotE_d]
  simp (disch := omega) only [wrap_sub, quo_4, wrap_mul1, wrap_mul2, wrap_mul3, wrap_add, ile_eq]
  rw [decide_eq_true (show (8 : Int) ≤ ((b - a : Nat) : Int) by omega)]
  simp only []
  by_cases h : 50 ≤ b - a
  · rw [decide_eq_true (show (50 : Int) ≤ ((b - a : Nat) : Int) by omega)]
    simp only []
    obtain ⟨s1, p1, e1, h1⟩ := medAdjE_val d (a + (b - a) / 4 * 1) 0 (by omega) (by omega) hs
    simp only [e1]
    obtain ⟨s2, p2, e2, h2⟩ := medAdjE_val d (a + (b - a) / 4 * 2) s1 (by omega) (by omega) hs
    simp only [e2]
    obtain ⟨s3, p3, e3, h3⟩ := medAdjE_val d (a + (b - a) / 4 * 3) s2 (by omega) (by omega) hs
    simp only [e3]
    obtain ⟨s4, p4, e4, h4⟩ := medianE_val d p1 p2 p3 s3 (by omega) (by omega) (by omega)
    simp only [e4]
    cases ieq s4 0
    · cases ieq s4 12
      · exact ⟨p4, _, rfl, by omega, by omega⟩
      · exact ⟨p4, _, rfl, by omega, by omega⟩
    · exact ⟨p4, _, rfl, by omega, by omega⟩
  · rw [decide_eq_false (show ¬ (50 : Int) ≤ ((b - a : Nat) : Int) by omega)]
    simp only []
    obtain ⟨s4, p4, e4, h4⟩ := medianE_val d (a + (b - a) / 4 * 1) (a + (b - a) / 4 * 2) (a + (b - a) / 4 * 3) 0 (by omega) (by omega) (by omega)
    simp only [e4]
    cases ieq s4 0
    · cases ieq s4 12
      · exact ⟨p4, _, rfl, by omega, by omega⟩
      · exact ⟨p4, _, rfl, by omega, by omega⟩
    · exact ⟨p4, _, rfl, by omega, by omega⟩
end Go.Pev.Pl.SE
end
section
namespace Go.Pev.Pl.SE
open Go.Sort
theorem breakE_loop (a b : Nat) (m : Nat) (h8 : a + 8 ≤ b) (hm1 : 1 ≤ m) (hm : m ≤ 2 * (b - a)) : ∀ (k t : Nat) (d : Array EL) (r : Int) (n : Nat), t + k = 3 → b ≤ d.size → d.size < 4294967296 → k < n →
    ∃ d' : Array EL, iterO breakE_s0 n ((rep d), (a : Int), ((b - a : Nat) : Int), r, (m : Int), ((a + (b - a) / 4 * 2 - 1 + t : Nat) : Int), ()) = some (.inl ((rep d'), ())) ∧ PermIn a b d d' := by
  intro k
  induction k with
  | zero =>
    intro t d r n hk hb hs hn
    obtain ⟨n, rfl⟩ : ∃ k, n = k + 1 := ⟨n - 1, by omega⟩
    rw [iterO, breakE_s0]
    simp (disch := omega) only [quo_4, wrap_mul2, wrap_add, wrap_add1, ile_nat]
    rw [decide_eq_false (by omega)]
    exact ⟨d, rfl, permIn_refl d a b⟩
  | succ k ih =>
    intro t d r n hk hb hs hn
    obtain ⟨n, rfl⟩ : ∃ k, n = k + 1 := ⟨n - 1, by omega⟩
    rw [iterO, breakE_s0]
    simp (disch := omega) only [quo_4, wrap_mul2, wrap_add, wrap_add1, ile_nat]
    rw [decide_eq_true (show a + (b - a) / 4 * 2 - 1 + t ≤ a + (b - a) / 4 * 2 + 1 by omega)]
    obtain ⟨r', y, e⟩ := xorNext_val r
    obtain ⟨o, e2, ho⟩ := other_le y m hm1 (by omega)
    simp only [e, e2]
    rw [wrap_in (n := (o : Int)) (by omega)]
    simp only [ile_nat]
    have i0 : a + (b - a) / 4 * 2 - 1 + t < d.size := by omega
    have fin : ∀ q : Nat, a ≤ q → q < b → ∃ d' : Array EL, iterO breakE_s0 n ((rep (swp d (a + (b - a) / 4 * 2 - 1 + t) q)), (a : Int), ((b - a : Nat) : Int), r', (m : Int), ((a + (b - a) / 4 * 2 - 1 + t + 1 : Nat) : Int), ()) = some (.inl ((rep d'), ())) ∧ PermIn a b d d' := by
      intro q hq1 hq2
      obtain ⟨d', e', hp⟩ := ih (t + 1) (swp d (a + (b - a) / 4 * 2 - 1 + t) q) r' n (by omega) (by rw [size_swp]; omega) (by rw [size_swp]; omega) (by omega)
      exact ⟨d', e', permIn_trans _ _ _ a b (swp_permIn d a b _ q (by omega) (by omega) hq1 hq2 hb) hp⟩
    by_cases h : b - a ≤ o
    · have i1 : a + (o - (b - a)) < d.size := by omega
      simp (disch := omega) only [h, decide_true, wrap_sub, wrap_add, wrap_add1, idx_at i0, idx_at i1, eta3, (swapE i0 i1).1, (swapE i0 i1).2]
      exact fin _ (by omega) (by omega)
    · have i1 : a + o < d.size := by omega
      simp (disch := omega) only [h, decide_false, wrap_sub, wrap_add, wrap_add1, idx_at i0, idx_at i1, eta3, (swapE i0 i1).1, (swapE i0 i1).2]
      exact fin _ (by omega) (by omega)
theorem breakE_val (d : Array EL) (a b : Nat) (hab : a ≤ b) (hb : b ≤ d.size) (hs : d.size < 4294967296) :
    ∃ d' : Array EL, breakE ((rep d), (a : Int), (b : Int), ()) = some ((rep d'), ()) ∧ PermIn a b d d' := by
  have hm : 4294967296 < many := by simp only [many]; omega
  rw [breakE_eq, breakE_d]
  simp (disch := omega) only [wrap_sub, ile_eq]
  by_cases h : 8 ≤ b - a
  · rw [decide_eq_true (show (8 : Int) ≤ ((b - a : Nat) : Int) by omega)]
    obtain ⟨m, e, h1, h2⟩ := nextPow_val (b - a) (by omega) (by omega)
    simp only [e]
    rw [u64_in (n := ((b - a : Nat) : Int)) (by omega)]
    simp (disch := omega) only [quo_4, wrap_mul2, wrap_add, wrap_sub1, iterL_eq]
    obtain ⟨d', e2, hp⟩ := breakE_loop a b m (by omega) h1 h2 3 0 d ((b - a : Nat) : Int) many rfl hb hs (by omega)
    rw [Nat.add_zero] at e2
    simp only [e2]
    exact ⟨d', rfl, hp⟩
  · rw [decide_eq_false (show ¬ (8 : Int) ≤ ((b - a : Nat) : Int) by omega)]
    exact ⟨d, rfl, permIn_refl d a b⟩
end Go.Pev.Pl.SE
end
section
namespace Go.Pev.Pl.SE
open Go.Sort
abbrev PdqSt := List (Int × Int × Unit) × Int × Int × Int × Bool × Bool × Unit
abbrev PdqOutT := PdqSt ⊕ (List (Int × Int × Unit) × Unit) ⊕ Unit
noncomputable section
def pdqTail (self : (List (Int × Int × Unit) × Int × Int × Int × Unit) → Option ((List (Int × Int × Unit) × Unit))) (y7 : List (Int × Int × Unit)) (a1 a2 p l : Int) (a4 a5 : Bool) : Option PdqOutT :=
  match (ilt (0 : Int) a1) with
  | true => match idx y7 (IntKind.wrap .i64 (a1 - (1 : Int))) with
    | none => none
    | some x9 => match idx y7 p with
      | none => none
      | some x10 => match edges1 ((dget y7 (dnat (IntKind.wrap .i64 (a1 - (1 : Int)))) ((0 : Int), ((0 : Int), ()))), (dget y7 (dnat p) ((0 : Int), ((0 : Int), ()))), ()) with
        | none => none
        | some (y11, _) => match (!(ilt y11 (0 : Int))) with
          | true => match partEqE (y7, a1, a2, p, ()) with
            | none => none
            | some (y12, y13, _) => some (.inl (y12, y13, a2, l, a4, a5, ()))
          | false => match partE (y7, a1, a2, p, ()) with
            | none => none
            | some (y14, y15, y16, _) => match quo? .i64 (IntKind.wrap .i64 (a2 - a1)) (8 : Int) with
              | none => none
              | some x17 => match (ilt (IntKind.wrap .i64 (y15 - a1)) (IntKind.wrap .i64 (a2 - y15))) with
                | true => match self (y14, a1, y15, l, ()) with
                  | none => none
                  | some (y18, _) => some (.inl (y18, (IntKind.wrap .i64 (y15 + (1 : Int))), a2, l, (ile x17 (IntKind.wrap .i64 (y15 - a1))), y16, ()))
                | false => match self (y14, (IntKind.wrap .i64 (y15 + (1 : Int))), a2, l, ()) with
                  | none => none
                  | some (y19, _) => some (.inl (y19, a1, y15, l, (ile x17 (IntKind.wrap .i64 (a2 - y15))), y16, ()))
  | false => match partE (y7, a1, a2, p, ()) with
    | none => none
    | some (y20, y21, y22, _) => match quo? .i64 (IntKind.wrap .i64 (a2 - a1)) (8 : Int) with
      | none => none
      | some x23 => match (ilt (IntKind.wrap .i64 (y21 - a1)) (IntKind.wrap .i64 (a2 - y21))) with
        | true => match self (y20, a1, y21, l, ()) with
          | none => none
          | some (y24, _) => some (.inl (y24, (IntKind.wrap .i64 (y21 + (1 : Int))), a2, l, (ile x23 (IntKind.wrap .i64 (y21 - a1))), y22, ()))
        | false => match self (y20, (IntKind.wrap .i64 (y21 + (1 : Int))), a2, l, ()) with
          | none => none
          | some (y25, _) => some (.inl (y25, a1, y21, l, (ile x23 (IntKind.wrap .i64 (a2 - y21))), y22, ()))
def pdqEnd (self : (List (Int × Int × Unit) × Int × Int × Int × Unit) → Option ((List (Int × Int × Unit) × Unit))) (y6 : List (Int × Int × Unit)) (a1 a2 p h l : Int) (a4 a5 : Bool) : Option PdqOutT :=
  match a4 with
  | true => match a5 with
    | true => match (ieq h (1 : Int)) with
      | true => match partInsE (y6, a1, a2, ()) with
        | none => none
        | some (y7, y8, _) => match y8 with
          | true => some (.inr (.inl (y7, ())))
          | false => pdqTail self y7 a1 a2 p l a4 a5
      | false => pdqTail self y6 a1 a2 p l a4 a5
    | false => pdqTail self y6 a1 a2 p l a4 a5
  | false => pdqTail self y6 a1 a2 p l a4 a5
def pdqMid (self : (List (Int × Int × Unit) × Int × Int × Int × Unit) → Option ((List (Int × Int × Unit) × Unit))) (y2 : List (Int × Int × Unit)) (a1 a2 l : Int) (a4 a5 : Bool) : Option PdqOutT :=
  match pivotE (y2, a1, a2, ()) with
  | none => none
  | some (y3, y4, y5, _) => match (ieq y5 (2 : Int)) with
    | true => match revE (y3, a1, a2, ()) with
      | none => none
      | some (y6, _) => pdqEnd self y6 a1 a2 (IntKind.wrap .i64 ((IntKind.wrap .i64 (a2 - (1 : Int))) - (IntKind.wrap .i64 (y4 - a1)))) 1 l a4 a5
    | false => pdqEnd self y3 a1 a2 y4 y5 l a4 a5
def pdqRound (self : (List (Int × Int × Unit) × Int × Int × Int × Unit) → Option ((List (Int × Int × Unit) × Unit))) : PdqSt → Option PdqOutT := fun (a0, a1, a2, a3, a4, a5, _) =>
  match (ile (IntKind.wrap .i64 (a2 - a1)) (12 : Int)) with
  | true => match insE (a0, a1, a2, ()) with
    | none => none
    | some (y0, _) => some (.inr (.inl (y0, ())))
  | false => match (ieq a3 (0 : Int)) with
    | true => match heapE (a0, a1, a2, ()) with
      | none => none
      | some (y1, _) => some (.inr (.inl (y1, ())))
    | false => match (!a4) with
      | true => match breakE (a0, a1, a2, ()) with
        | none => none
        | some (y2, _) => pdqMid self y2 a1 a2 (IntKind.wrap .i64 (a3 - (1 : Int))) a4 a5
      | false => pdqMid self a0 a1 a2 a3 a4 a5
theorem pdqE_s0_round : pdqE_s0 = pdqRound := rfl
end
def PdqOut (d : Array EL) (a b : Nat) : PdqOutT → Prop
  | .inl (xs, x, y, l, _, _, _) => ∃ (e : Array EL) (i j : Nat), xs = (rep e) ∧ x = (i : Int) ∧ y = (j : Int) ∧ 0 ≤ l ∧ l ≤ 100 ∧ i ≤ j ∧ j ≤ e.size ∧ e.size = d.size ∧ j - i < b - a ∧ Below ltX i j e ∧
      ∀ R, PermIn i j e R → SortedIn ltX i j R → PermIn a b d R ∧ SortedIn ltX a b R
  | .inr (.inl (xs, _)) => ∃ R : Array EL, xs = (rep R) ∧ PermIn a b d R ∧ SortedIn ltX a b R
  | .inr (.inr _) => False
def PdqCalls (self : (List (Int × Int × Unit) × Int × Int × Int × Unit) → Option ((List (Int × Int × Unit) × Unit))) (m : Nat) : Prop :=
  ∀ (d : Array EL) (a b : Nat) (l : Int), a ≤ b → b ≤ d.size → d.size < 4294967296 → 0 ≤ l → l ≤ 100 → Below ltX a b d → 2 * (b - a) < m →
    ∃ R : Array EL, self ((rep d), (a : Int), (b : Int), l, ()) = some ((rep R), ()) ∧ PermIn a b d R ∧ SortedIn ltX a b R
section
variable {self : (List (Int × Int × Unit) × Int × Int × Int × Unit) → Option ((List (Int × Int × Unit) × Unit))} {d : Array EL} {a b : Nat} {l : Int}
theorem pdq_part (hself : PdqCalls self (b - a)) (hb : b ≤ d.size) (hs : d.size < 4294967296) (hl : 0 ≤ l ∧ l ≤ 100)
    {d3 : Array EL} {p : Nat} (P3 : PermIn a b d d3) (B3 : Below ltX a b d3) (hp1 : a ≤ p) (hp2 : p < b) :
    ∃ o, (match partE ((rep d3), (a : Int), (b : Int), (p : Int), ()) with
    | none => none
    | some (y20, y21, y22, _) => match quo? .i64 (IntKind.wrap .i64 ((b : Int) - (a : Int))) (8 : Int) with
      | none => none
      | some x23 => match (ilt (IntKind.wrap .i64 (y21 - (a : Int))) (IntKind.wrap .i64 ((b : Int) - y21))) with
        | true => match self (y20, (a : Int), y21, l, ()) with
          | none => none
          | some (y24, _) => some ((.inl (y24, (IntKind.wrap .i64 (y21 + (1 : Int))), (b : Int), l, (ile x23 (IntKind.wrap .i64 (y21 - (a : Int)))), y22, ())) : PdqOutT)
        | false => match self (y20, (IntKind.wrap .i64 (y21 + (1 : Int))), (b : Int), l, ()) with
          | none => none
          | some (y25, _) => some (.inl (y25, (a : Int), y21, l, (ile x23 (IntKind.wrap .i64 ((b : Int) - y21))), y22, ()))) = some o ∧ PdqOut d a b o := by
  have b3 : b ≤ d3.size := by rw [P3.1]; exact hb
  have s3 : d3.size < 4294967296 := by rw [P3.1]; exact hs
  rw [partE_val d3 a b p hp1 hp2 b3 s3]
  rcases hx : partition ltX d3 a b p with ⟨mid, ap, d4⟩
  obtain ⟨g1, g2, hs4, hBa, hBr, hleft, hright⟩ := round_part swoX (partition_holds _) hp1 hp2 b3 B3 hx
  simp (disch := omega) only [wrap_sub, wrap_add1, quo_8, ilt_nat]
  have b4 : b ≤ d4.size := by omega
  by_cases h : mid - a < b - mid
  · obtain ⟨L, e, l1, l2⟩ := hself d4 a mid l g1 (by omega) (by omega) hl.1 hl.2 hBa (by omega)
    simp only [h, decide_true, e]
    obtain ⟨hBL, hfin⟩ := hleft _ l1 l2
    refine ⟨_, rfl, L, mid + 1, b, rfl, rfl, rfl, hl.1, hl.2, by omega, by rw [l1.1]; exact b4, by rw [l1.1, hs4, P3.1], by omega, hBL, fun R r1 r2 => ?_⟩
    obtain ⟨q1, q2⟩ := hfin R r1 r2
    exact ⟨permIn_trans _ _ _ a b P3 q1, q2⟩
  · obtain ⟨L, e, l1, l2⟩ := hself d4 (mid + 1) b l (by omega) (by omega) (by omega) hl.1 hl.2 hBr (by omega)
    simp only [h, decide_false, e]
    obtain ⟨hBL, hfin⟩ := hright _ l1 l2
    refine ⟨_, rfl, L, a, mid, rfl, rfl, rfl, hl.1, hl.2, by omega, by rw [l1.1]; omega, by rw [l1.1, hs4, P3.1], by omega, hBL, fun R r1 r2 => ?_⟩
    obtain ⟨q1, q2⟩ := hfin R r1 r2
    exact ⟨permIn_trans _ _ _ a b P3 q1, q2⟩
theorem pdq_tail (hself : PdqCalls self (b - a)) (hb : b ≤ d.size) (hs : d.size < 4294967296) (hl : 0 ≤ l ∧ l ≤ 100)
    {d3 : Array EL} {p : Nat} (wb wp : Bool) (P3 : PermIn a b d d3) (B3 : Below ltX a b d3) (hp1 : a ≤ p) (hp2 : p < b) :
    ∃ o, pdqTail self (rep d3) (a : Int) (b : Int) (p : Int) l wb wp = some o ∧ PdqOut d a b o := by
  have b3 : b ≤ d3.size := by rw [P3.1]; exact hb
  have s3 : d3.size < 4294967296 := by rw [P3.1]; exact hs
  rw [pdqTail, ilt_eq]
  by_cases h0 : 0 < a
  · rw [decide_eq_true (by omega)]
    have i0 : a - 1 < d3.size := by omega
    have i1 : p < d3.size := by omega
    simp (disch := omega) only [wrap_sub1, idx_at, dget_at, eta3, less_val, less_lt]
    cases hc : ltX d3[a - 1]! d3[p]!
    · simp only [Bool.not_false]
      rw [partEqE_val d3 a b p hp1 hp2 b3 s3]
      rcases hx : partitionEqual ltX d3 a b p with ⟨mid, d4⟩
      obtain ⟨hm1, hm2, hs4, hB4, hfin⟩ := round_eq swoX (partitionEqual_holds _) h0 hp1 hp2 b3 B3 hc hx
      refine ⟨_, rfl, d4, mid, b, rfl, rfl, rfl, hl.1, hl.2, by omega, by omega, by rw [hs4, P3.1], by omega, hB4, fun R r1 r2 => ?_⟩
      obtain ⟨q1, q2⟩ := hfin R r1 r2
      exact ⟨permIn_trans _ _ _ a b P3 q1, q2⟩
    · simp only [Bool.not_true]
      exact pdq_part hself hb hs hl P3 B3 hp1 hp2
  · rw [decide_eq_false (by omega)]
    exact pdq_part hself hb hs hl P3 B3 hp1 hp2
theorem pdq_end (hself : PdqCalls self (b - a)) (hab : a < b) (hb : b ≤ d.size) (hs : d.size < 4294967296) (hl : 0 ≤ l ∧ l ≤ 100)
    {d3 : Array EL} {p : Nat} (h : Int) (wb wp : Bool) (P3 : PermIn a b d d3) (B3 : Below ltX a b d3) (hp1 : a ≤ p) (hp2 : p < b) :
    ∃ o, pdqEnd self (rep d3) (a : Int) (b : Int) (p : Int) h l wb wp = some o ∧ PdqOut d a b o := by
  have b3 : b ≤ d3.size := by rw [P3.1]; exact hb
  have s3 : d3.size < 4294967296 := by rw [P3.1]; exact hs
  unfold pdqEnd
  cases wb
  · exact pdq_tail hself hb hs hl _ _ P3 B3 hp1 hp2
  · cases wp
    · exact pdq_tail hself hb hs hl _ _ P3 B3 hp1 hp2
    · simp only []
      cases ieq h 1
      · exact pdq_tail hself hb hs hl _ _ P3 B3 hp1 hp2
      · simp only []
        rw [partInsE_val d3 a b hab b3 s3]
        obtain ⟨q1, q2⟩ := partialInsertionSort_holds (lt := ltX) swoX d3 a b hab b3 B3
        rcases hx : partialInsertionSort ltX d3 a b with ⟨d4, fin⟩
        rw [hx] at q1 q2
        have P4 : PermIn a b d d4 := permIn_trans _ _ _ a b P3 q1
        cases fin
        · exact pdq_tail hself hb hs hl _ _ P4 (B3.perm b3 q1) hp1 hp2
        · exact ⟨_, rfl, d4, rfl, P4, q2 rfl⟩
theorem pdq_mid (hself : PdqCalls self (b - a)) (hab : a + 8 ≤ b) (hb : b ≤ d.size) (hs : d.size < 4294967296) (hl : 0 ≤ l ∧ l ≤ 100)
    {d3 : Array EL} (wb wp : Bool) (P3 : PermIn a b d d3) (B3 : Below ltX a b d3) :
    ∃ o, pdqMid self (rep d3) (a : Int) (b : Int) l wb wp = some o ∧ PdqOut d a b o := by
  have b3 : b ≤ d3.size := by rw [P3.1]; exact hb
  have s3 : d3.size < 4294967296 := by rw [P3.1]; exact hs
  rw [pdqMid]
  obtain ⟨p, h, e, hp1, hp2⟩ := pivotE_val d3 a b hab b3 s3
  simp only [e]
  cases ieq h 2
  · exact pdq_end hself (by omega) hb hs hl h _ _ P3 B3 hp1 hp2
  · simp only [revE_val d3 a b (by omega) b3 s3]
    have q1 := reverseRange_holds (α := EL) d3 a b (by omega) b3
    simp (disch := omega) only [wrap_sub1, wrap_sub]
    exact pdq_end hself (by omega) hb hs hl 1 _ _ (permIn_trans _ _ _ a b P3 q1) (B3.perm b3 q1) (by omega) (by omega)
theorem pdq_round (hself : PdqCalls self (b - a)) (hab : a ≤ b) (hb : b ≤ d.size) (hs : d.size < 4294967296) (hl : 0 ≤ l ∧ l ≤ 100) (wb wp : Bool) (B : Below ltX a b d) :
    ∃ o, pdqE_s0 self ((rep d), (a : Int), (b : Int), l, wb, wp, ()) = some o ∧ PdqOut d a b o := by
  rw [pdqE_s0_round, pdqRound]
  simp (disch := omega) only [wrap_sub, ile_eq, ieq_eq]
  by_cases h12 : b - a ≤ 12
  · rw [decide_eq_true (show ((b - a : Nat) : Int) ≤ 12 by omega)]
    simp only [insE_val d a b hab hb hs]
    obtain ⟨q1, q2⟩ := insertionSort_holds (lt := ltX) swoX d a b hab hb
    exact ⟨_, rfl, _, rfl, q1, q2⟩
  · rw [decide_eq_false (show ¬ ((b - a : Nat) : Int) ≤ 12 by omega)]
    simp only []
    by_cases h0 : l = 0
    · subst h0
      simp only [BEq.rfl, heapE_val d a b (by omega) hb hs]
      obtain ⟨q1, q2⟩ := heapSort_holds (lt := ltX) swoX d a b hab hb
      exact ⟨_, rfl, _, rfl, q1, q2⟩
    · rw [show (l == 0) = false by simpa using h0]
      simp only []
      cases wb
      · obtain ⟨d', e, q1⟩ := breakE_val d a b hab hb hs
        simp only [Bool.not_false, e]
        rw [wrap_in (by omega)]
        exact pdq_mid hself (by omega) hb hs (by omega) _ _ q1 (B.perm hb q1)
      · simp only [Bool.not_true]
        exact pdq_mid hself (by omega) hb hs hl _ _ (permIn_refl d a b) B
end
theorem pdq_loop {self : (List (Int × Int × Unit) × Int × Int × Int × Unit) → Option ((List (Int × Int × Unit) × Unit))} {m : Nat} (hself : PdqCalls self m) : ∀ (k : Nat) (d : Array EL) (a b : Nat) (l : Int) (wb wp : Bool) (n : Nat), b - a = k → k ≤ m → a ≤ b → b ≤ d.size → d.size < 4294967296 → 0 ≤ l → l ≤ 100 → Below ltX a b d → k < n →
    ∃ R : Array EL, iterO (pdqE_s0 self) n ((rep d), (a : Int), (b : Int), l, wb, wp, ()) = some (.inl ((rep R), ())) ∧ PermIn a b d R ∧ SortedIn ltX a b R := by
  intro k
  induction k using Nat.strongRecOn with
  | _ k ih =>
  intro d a b l wb wp n hk hm hab hb hs hl1 hl2 B hn
  obtain ⟨n, rfl⟩ : ∃ k, n = k + 1 := ⟨n - 1, by omega⟩
  have hself' : PdqCalls self (b - a) := fun d a' b' l h1 h2 h3 h4 h5 h6 h7 => hself d a' b' l h1 h2 h3 h4 h5 h6 (by omega)
  obtain ⟨o, e, ho⟩ := pdq_round hself' hab hb hs ⟨hl1, hl2⟩ wb wp B
  rw [iterO, e]
  match o, ho with
  | .inl (xs, x, y, l', wb', wp', _), ho =>
    obtain ⟨e', i, j, rfl, rfl, rfl, g1, g2, g3, g4, g5, g6, g7, hfin⟩ := ho
    obtain ⟨R, e2, r1, r2⟩ := ih (j - i) (by omega) e' i j l' wb' wp' n rfl (by omega) g3 g4 (by omega) g1 g2 g7 (by omega)
    exact ⟨R, e2, hfin R r1 r2⟩
  | .inr (.inl (xs, _)), ho =>
    obtain ⟨R, rfl, r1, r2⟩ := ho
    exact ⟨R, rfl, r1, r2⟩
theorem pdq_calls : ∀ k : Nat, PdqCalls (pdqE_f (k + 1)) (2 ^ k) := by
  intro k
  have hmany : 4294967296 < many := by simp only [many]; omega
  induction k with
  | zero =>
    intro d a b l h1 h2 h3 h4 h5 h6 h7
    have : PdqCalls (pdqE_f 0) 0 := fun _ _ _ _ _ _ _ _ _ _ h => by omega
    obtain ⟨R, e, r1, r2⟩ := pdq_loop this (b - a) d a b l true true many rfl (by omega) h1 h2 h3 h4 h5 h6 (by omega)
    refine ⟨R, ?_, r1, r2⟩
    rw [pdqE_f, pdqE_d]
    simp only [iterL_eq, e]
  | succ k ih =>
    intro d a b l h1 h2 h3 h4 h5 h6 h7
    have hp : 2 ^ (k + 1) = 2 * 2 ^ k := by rw [Nat.pow_succ]; omega
    obtain ⟨R, e, r1, r2⟩ := pdq_loop ih (b - a) d a b l true true many rfl (by omega) h1 h2 h3 h4 h5 h6 (by omega)
    refine ⟨R, ?_, r1, r2⟩
    rw [pdqE_f, pdqE_d]
    simp only [iterL_eq, e]
theorem sort_val (xs : List (Int × Int × Unit)) (h : xs.length < 4294967296) (hok : ∀ x ∈ xs, ok x) : ∃ ys, sortE (xs, ()) = some (ys, ()) ∧ ys.Perm xs ∧ ys.Pairwise fun x y => lt y x = false := by
  obtain ⟨d, rfl⟩ : ∃ d : Array EL, xs = rep d := by
    refine ⟨(xs.attach.map fun x => ⟨x.val, hok x.val x.property⟩).toArray, ?_⟩
    simp only [rep, List.map_map]
    exact (List.attach_map_subtype_val xs).symm
  have hl : (rep d).length = d.size := by simp [rep]
  rw [hl] at h
  rw [sortE_eq, sortE_d]
  rw [dlen_at, u64_in (by omega)]
  obtain ⟨v, e, hv, _⟩ := bitsLen_val d.size h
  simp only [e]
  obtain ⟨R, e2, r1, r2⟩ := pdq_calls 99 d 0 d.size (v : Int) (by omega) (by omega) h (by omega) (by omega) (.inl rfl) (by
    have : 2 ^ 99 = 633825300114114700748351602688 := by decide
    omega)
  have e3 : pdqE (rep d, (0 : Int), (d.size : Int), (v : Int), ()) = some (rep R, ()) := by rw [pdqE_eq]; exact e2
  refine ⟨rep R, by simp only [e3], ?_, ?_⟩
  · obtain ⟨hsz, _, hp⟩ := r1
    have e1 : R.extract 0 d.size = R := by rw [← hsz]; exact Array.extract_size
    rw [e1, Array.extract_size] at hp
    exact hp.map _
  · rw [rep, List.pairwise_map, List.pairwise_iff_getElem]
    intro i j hi hj hij
    have hi' : i < R.size := by simpa using hi
    have hj' : j < R.size := by simpa using hj
    have := r2 i j (Nat.zero_le _) hij (by rw [← r1.1]; omega)
    rw [getElem!_pos R j hj', getElem!_pos R i hi'] at this
    simpa [ltX] using this
end Go.Pev.Pl.SE
end
section
namespace Go.Pev.Pl
open Go.RowKit Tok
def upT : Tok → Option Edge
  | .arc u v => if u < v then some (u, v, ()) else none
  | .ver _ => none
def upI (n t : Int) : Option Edge := (tokOf n t).bind upT
def arcsUp (n : Int) (xs : List Int) : List Edge := xs.filterMap (upI n)
theorem T.ups {l : List Tok} (h : T l) : (l.filterMap upT).length + 1 = (vers l).length := by
  induction h with
  | one v => rfl
  | add x l v h hne hv ih =>
    have : ((x :: Tok.arc x.st v :: .ver v :: .arc v x.st :: l).filterMap upT).length = ((x :: l).filterMap upT).length + 1 := by
      have u2 : upT (.ver v) = none := rfl
      by_cases hl : x.st < v
      · have u1 : upT (.arc x.st v) = some (x.st, v, ()) := if_pos hl
        have u3 : upT (.arc v x.st) = none := if_neg (by omega)
        cases hx : upT x <;> simp only [List.filterMap_cons, hx, u1, u2, u3, List.length_cons]
      · have u1 : upT (.arc x.st v) = none := if_neg hl
        have u3 : upT (.arc v x.st) = some (v, x.st, ()) := if_pos (by omega)
        cases hx : upT x <;> simp only [List.filterMap_cons, hx, u1, u2, u3, List.length_cons]
    rw [this]
    cases x <;> simp [vers] at ih ⊢ <;> omega
  | rot a b h ih =>
    simp only [vers_append, List.length_append, List.filterMap_append] at ih ⊢
    omega
theorem arcsUp_map {n : Int} {L : List Tok} (h : ∀ t ∈ L, okT n t) : arcsUp n (L.map (encT n)) = L.filterMap upT := by
  induction L with
  | nil => rfl
  | cons t L ih =>
    have h1 := ih fun t ht => h t (List.mem_cons_of_mem _ ht)
    have h2 : upI n (encT n t) = upT t := by rw [upI, tokOf_enc (h t (by simp))]; rfl
    rw [arcsUp] at h1 ⊢
    rw [List.map_cons, List.filterMap_cons, List.filterMap_cons, h2, h1]
theorem arcsUp_len {n : Int} {A : List Int} (h : RG n A) : (arcsUp n A).length + 1 = (verts n A).length := by
  have h1 := lows_len h
  obtain ⟨L, q1, q2, q3⟩ := h.2.2.2
  have h2 := q3.len
  have h3 := T.ups q3
  rw [q1, List.length_map] at h1
  rw [q1, arcsUp_map q2]
  omega
theorem edges_ring (N : Nat) (rings R2 : List (List Int)) (ln : Int) (i : Int) (l : List Int) (hg : Rt l) (hrg : ∀ x ∈ l, -9223372036854775808 ≤ x ∧ x ≤ 9223372036854775807) :
    ∀ (m j cnt : Nat) (acc : List Edge), j + m = l.length → acc.length + m < 1073741824 → m < cnt →
    iterO fedges_s1 cnt ((N : Int), rings, acc, R2, ln, i, l, (l.length : Int), (j : Int), ()) = some (.inl ((N : Int), rings, acc ++ arcsUp (N : Int) (l.drop j), R2, ln, i, ())) := by
  have hl := hg.1
  intro m
  induction m with
  | zero =>
    intro j cnt acc hj _ hc
    obtain ⟨cnt, rfl⟩ : ∃ c, cnt = c + 1 := ⟨cnt - 1, by omega⟩
    rw [iterO, fedges_s1, ilt_nat, decide_eq_false (by omega), List.drop_of_length_le (by omega)]
    simp [arcsUp]
  | succ m ih =>
    intro j cnt acc hj hacc hc
    obtain ⟨cnt, rfl⟩ : ∃ c, cnt = c + 1 := ⟨cnt - 1, by omega⟩
    have hj' : j < l.length := by omega
    have hx : l[j]? = some l[j] := List.getElem?_eq_getElem hj'
    have hr := hrg _ (List.getElem_mem hj')
    rw [iterO, fedges_s1, ilt_nat, decide_eq_true hj', List.drop_eq_getElem_cons hj']
    simp only [idx_some hx, ttoken_val (N : Int) _ hr]
    rw [wrap_add1 (by omega), arcsUp, List.filterMap_cons, upI]
    generalize l[j] = t at *
    have hih := ih (j + 1) cnt
    rw [arcsUp] at hih
    cases ht : tokOf (N : Int) t with
    | none => exact hih acc (by omega) (by omega) (by omega)
    | some x =>
      cases x with
      | ver v => exact hih acc (by omega) (by omega) (by omega)
      | arc u v =>
        simp only [tokR, ilt_eq, Option.bind_some, upT]
        by_cases huv : u < v
        · rw [decide_eq_true huv, fits_l (by simp only [dlen_l, List.length_cons, List.length_nil]; omega)]
          have := hih (acc ++ [(u, v, ())]) (by omega) (by simp; omega) (by omega)
          simp only [huv, if_true, dapp_l]
          rw [this, List.append_assoc]
          rfl
        · rw [decide_eq_false huv]
          simp only [huv, if_false]
          exact hih acc (by omega) (by omega) (by omega)
theorem edges_rings (N : Nat) (rings : List (List Int)) (hlen : rings.length ≤ 64) (hg : ∀ l ∈ rings, RG (N : Int) l) :
    ∀ (m i cnt : Nat) (acc : List Edge), i + m = rings.length → acc.length ≤ 1000 * i → m < cnt →
    iterO fedges_s0 cnt ((N : Int), rings, acc, rings, (rings.length : Int), (i : Int), ()) = some (.inl (acc ++ (rings.drop i).flatMap (arcsUp (N : Int)), ())) := by
  have hmany : 9223372036854775808 < many := by simp only [many]; omega
  intro m
  induction m with
  | zero =>
    intro i cnt acc hi _ hc
    obtain ⟨cnt, rfl⟩ : ∃ c, cnt = c + 1 := ⟨cnt - 1, by omega⟩
    rw [iterO, fedges_s0, ilt_nat, decide_eq_false (by omega), List.drop_of_length_le (by omega)]
    simp
  | succ m ih =>
    intro i cnt acc hi hacc hc
    obtain ⟨cnt, rfl⟩ : ∃ c, cnt = c + 1 := ⟨cnt - 1, by omega⟩
    have hi' : i < rings.length := by omega
    have hx : rings[i]? = some rings[i] := List.getElem?_eq_getElem hi'
    have hgl := hg _ (List.getElem_mem hi')
    rw [iterO, fedges_s0, ilt_nat, decide_eq_true hi', List.drop_eq_getElem_cons hi']
    simp only [idx_some hx, iterL_eq, dlen_l]
    generalize rings[i] = l at *
    have hl := hgl.1.1
    have e := edges_ring N rings rings (rings.length : Int) (i : Int) l hgl.1 (fun x hx => by have := hgl.1.2.1 x hx; omega) l.length 0 many acc (by omega) (by omega) (by omega)
    rw [List.drop_zero] at e
    have e' : iterO fedges_s1 many ((N : Int), rings, acc, rings, (rings.length : Int), (i : Int), l, (l.length : Int), (0 : Int), ()) = _ := e
    simp only [e']
    rw [wrap_add1 (by omega)]
    have hup : (arcsUp (N : Int) l).length ≤ l.length := List.length_filterMap_le _ _
    have := ih (i + 1) cnt (acc ++ arcsUp (N : Int) l) (by omega) (by rw [List.length_append]; omega) (by omega)
    rw [this, List.flatMap_cons, List.append_assoc]
theorem fedges_val {n : Int} {rings : List (List Int)} (h : FR n rings) : ∃ ys, fedges ((n, (rings, ())), ()) = some (ys, ()) ∧ ys.Perm (rings.flatMap (arcsUp n)) ∧ ys.Pairwise (fun x y => SE.lt y x = false) := by
  have hmany : 9223372036854775808 < many := by simp only [many]; omega
  have hD := h.dom
  have hRF := RF_iff.2 h
  have hl := okR_len h.sz.1 hRF.2.1 (by omega) (by have := h.sz.1; omega)
  obtain ⟨s1, s2⟩ := h.sz
  obtain ⟨N, rfl⟩ := Int.eq_ofNat_of_zero_le (show 0 ≤ n by omega)
  have e := edges_rings N rings (by omega) h.rg rings.length 0 many [] (by omega) (by simp) (by omega)
  rw [List.drop_zero, List.nil_append] at e
  have e' : iterO fedges_s0 many ((N : Int), rings, [], rings, (rings.length : Int), (0 : Int), ()) = _ := e
  have hlen : (rings.flatMap (arcsUp (N : Int))).length < 4294967296 := by
    have key : ∀ (ls : List (List Int)), (∀ l ∈ ls, RG (N : Int) l) → (ls.flatMap (arcsUp (N : Int))).length ≤ 1000 * ls.length := by
      intro ls
      induction ls with
      | nil => intro _; simp
      | cons l ls ih =>
        intro hg
        have h1 := ih fun k hk => hg k (List.mem_cons_of_mem _ hk)
        have h2 := (hg l (by simp)).1.1
        have h3 : (arcsUp (N : Int) l).length ≤ l.length := List.length_filterMap_le _ _
        rw [List.flatMap_cons, List.length_append, List.length_cons]
        omega
    have := key rings h.rg
    omega
  obtain ⟨ys, y1, y2, y3⟩ := SE.sort_val (rings.flatMap (arcsUp (N : Int))) hlen (fun _ _ => trivial)
  rw [fedges_eq, fedges_d]
  simp only [tright_val _ _ hD.1 hD.2, hRF, decide_true, Bool.not_true, iterL_eq, dlen_l, e', y1]
  exact ⟨ys, rfl, y2, y3⟩
theorem verts_all {N : Nat} {rings : List (List Int)} (h : FR (N : Int) rings) : ∀ (ls : List (List Int)), (∀ l ∈ ls, l ∈ rings) → (ls.flatMap (verts (N : Int))).length = (ls.flatMap (arcsUp (N : Int))).length + ls.length := by
  intro ls
  induction ls with
  | nil => intro _; rfl
  | cons l ls ih =>
    intro hg
    have h1 := ih fun k hk => hg k (List.mem_cons_of_mem _ hk)
    have h2 := arcsUp_len (h.rg l (hg l (by simp)))
    rw [List.flatMap_cons, List.flatMap_cons, List.length_append, List.length_append, List.length_cons]
    omega
theorem verts_count {N : Nat} {rings : List (List Int)} (h : FR (N : Int) rings) : (rings.flatMap (verts (N : Int))).length = N := by
  have hn : (rings.flatMap (verts (N : Int))).Nodup := by
    rw [List.Nodup, List.pairwise_flatMap]
    refine ⟨fun l hl => (verts_up (N : Int) l).imp fun h => by omega, ?_⟩
    exact h.dis.imp fun {a b} hd x hx y hy e => by
      subst e
      exact hd x ((verts_mem x).1 hx).2.2 ((verts_mem x).1 hx).2.1 ((verts_mem x).1 hy).2.2
  have hrn : ((List.range N).map (fun (k : Nat) => (k : Int))).Nodup := by
    rw [List.Nodup, List.pairwise_map]
    exact List.nodup_range.imp fun h e => h (by omega)
  have a1 := nodup_sub_len (b := (List.range N).map (fun (k : Nat) => (k : Int))) hn fun x hx => by
    rw [List.mem_flatMap] at hx
    obtain ⟨l, _, hx⟩ := hx
    have := (verts_mem x).1 hx
    rw [List.mem_map]
    exact ⟨x.toNat, by rw [List.mem_range]; omega, by omega⟩
  have a2 := nodup_sub_len (b := rings.flatMap (verts (N : Int))) hrn fun x hx => by
    rw [List.mem_map] at hx
    obtain ⟨k, hk, rfl⟩ := hx
    rw [List.mem_range] at hk
    obtain ⟨l, hl, hm⟩ := h.cov (k : Int) ⟨h.sz.1, h.sz.2, by omega, by omega⟩
    rw [List.mem_flatMap]
    exact ⟨l, hl, (verts_mem _).2 ⟨by omega, by omega, hm⟩⟩
  simp only [List.length_map, List.length_range] at a1 a2
  omega
theorem edges_count {N : Nat} {rings : List (List Int)} (h : FR (N : Int) rings) : (rings.flatMap (arcsUp (N : Int))).length + rings.length = N := by
  rw [← verts_all h rings fun l hl => hl, verts_count h]
section
variable {n : Int} {rings : List (List Int)}
theorem fconn_val (h : FR n rings) {u v : Int} (iu : In n u) (iv : In n v) : fconn ((n, (rings, ())), u, v, ()) = some (decide (plc rings u = plc rings v), 0, ()) := by
  have hD := h.dom
  have hRF := RF_iff.2 h
  have ht : fthere ((n, (rings, ())), [u, v], ()) = some (0, ()) := by
    rw [fthere_val n rings _ hD (by simp), askE]
    simp [hRF, iu, iv]
  rw [fconn_eq, fconn_d]
  simp only [ht, ieq_self, Bool.not_true, tof_val n rings _ hD, hRF, iu, iv, and_self, if_true, ieq_dec]
theorem fleast_val (h : FR n rings) {i : Nat} {A : List Int} {v : Int} (iv : In n v) (hi : rings[i]? = some A) (hv : v ∈ A) : fleast ((n, (rings, ())), v, ()) = some (hd A, 0, ()) := by
  have hD := h.dom
  have hRF := RF_iff.2 h
  have gA := h.rg A (List.mem_of_getElem? hi)
  have ht : fthere ((n, (rings, ())), [v], ()) = some (0, ()) := by
    rw [fthere_val n rings _ hD (by simp), askE]
    simp [hRF, iv]
  have i0 : idx A (0 : Int) = some (hd A) := by
    cases A with
    | nil => exact absurd rfl gA.2.1
    | cons x A => rw [idx_zero]; rfl
  rw [fleast_eq, fleast_d]
  simp only [ht, ieq_self, Bool.not_true, tof_val n rings v hD, hRF, iv, and_self, if_true, h.plc_eq hi iv.2.2.2 hv, idx_some hi, i0]
theorem fsize_val (h : FR n rings) {i : Nat} {A : List Int} {v : Int} (iv : In n v) (hi : rings[i]? = some A) (hv : v ∈ A) : fsize ((n, (rings, ())), v, ()) = some (((verts n A).length : Int), 0, ()) := by
  have hD := h.dom
  have hRF := RF_iff.2 h
  have gA := h.rg A (List.mem_of_getElem? hi)
  have hl := gA.1.1
  have hll := lows_len gA
  have ht : fthere ((n, (rings, ())), [v], ()) = some (0, ()) := by
    rw [fthere_val n rings _ hD (by simp), askE]
    simp [hRF, iv]
  rw [fsize_eq, fsize_d]
  simp only [ht, ieq_self, Bool.not_true, tof_val n rings v hD, hRF, iv, and_self, if_true, h.plc_eq hi iv.2.2.2 hv, idx_some hi, dlen_l, quo_eq, quoR]
  rw [wrap_in (n := (A.length : Int) + 2) (by omega), if_neg (by omega)]
  have : (((A.length : Int) + 2).tdiv 3) = ((verts n A).length : Int) := by
    rw [Int.tdiv_eq_ediv_of_nonneg (by omega)]
    omega
  rw [this, wrap_in (by omega)]
theorem hd_class {l : List Edge} {out : List Int} (h : FC n rings l) (hc : ClOK n l out) {A : List Int} {u : Int} (hA : A ∈ rings) (iu : In n u) (hu : u ∈ A) : hd A = cl out u := by
  have gA := h.fr.rg A hA
  have ih := RG_head gA
  have hh := hd_mem gA.2.1
  have h1 : Con l u (hd A) := (h.sam u (hd A) iu ih).1 ⟨A, hA, hu, hh⟩
  have h2 := hc.least u (hd A) iu ih h1
  have h3 := hc.isin u iu
  obtain ⟨K, hK, k1, k2⟩ := (h.sam u _ iu h3).2 (hc.con u iu)
  have := h.fr.one hA hK iu.2.2.2 hu k1
  subst this
  have h4 := (minL_spec gA.2.1).2 _ k2
  rw [gA.2.2.1] at h4
  have : hd A = A.headD 0 := rfl
  omega
theorem mem_class {l : List Edge} {out : List Int} (h : FC n rings l) (hc : ClOK n l out) {A : List Int} {u w : Int} (hA : A ∈ rings) (iu : In n u) (hu : u ∈ A) (iw : In n w) : w ∈ A ↔ cl out w = cl out u := by
  rw [hc.same w u iw iu, ← h.sam w u iw iu]
  constructor
  · intro hw; exact ⟨A, hA, hw, hu⟩
  · rintro ⟨K, hK, k1, k2⟩
    rw [h.fr.one hA hK iu.2.2.2 hu k2]; exact k1
end
end Go.Pev.Pl
end
section
namespace Go.Pev.Pl.SI
open Go.Sort
theorem lessI_val (x y : Int) : lessI (x, y, ()) = some (ltInt x y, ()) := by
  simp only [lessI_eq, lessI_d, nanI_eq, nanI_d, ilt_eq, ieq_eq, ltInt]
  by_cases h : x < y <;> simp [h]
theorem insI_in (a b i : Nat) : ∀ (j : Nat) (d : Array Int) (n : Nat), j < d.size → d.size < 4611686018427387904 → j < n →
    iterO insI_s1 n (d.toList, (a : Int), (b : Int), (i : Int), (j : Int), ()) = some (.inl ((insInner ltInt a j d).toList, (a : Int), (b : Int), (i : Int), ())) := by
  intro j
  induction j with
  | zero =>
    intro d n hj hs hn
    obtain ⟨n, rfl⟩ : ∃ k, n = k + 1 := ⟨n - 1, by omega⟩
    have h0 : ilt (a : Int) ((0 : Nat) : Int) = false := by rw [ilt_nat]; simp
    simp only [iterO, insI_s1, h0, insInner]
  | succ j ih =>
    intro d n hj hs hn
    obtain ⟨n, rfl⟩ : ∃ k, n = k + 1 := ⟨n - 1, by omega⟩
    have e1 : IntKind.wrap .i64 (((j + 1 : Nat) : Int) - 1) = (j : Int) := by rw [wrap_in (by omega)]; omega
    have hj' : j < d.size := by omega
    simp only [iterO, insI_s1, ilt_nat, e1, idx_at hj, idx_at hj', dget_at hj, dget_at hj', lessI_val, insInner, gt_iff_lt]
    by_cases h1 : a < j + 1
    · cases h2 : ltInt d[j + 1]! d[j]!
      · simp only [h1, decide_true, h2, Bool.and_false, Bool.false_eq_true, if_false]
      · simp only [h1, decide_true, h2, Bool.and_true, if_true, dset_at]
        rw [idx_at (by simpa using hj')]
        simp only [swp_fold]
        exact ih (swp d (j + 1) j) n (by rw [size_swp]; omega) (by rw [size_swp]; omega) (by omega)
    · simp only [h1, decide_false, Bool.false_and, Bool.false_eq_true, if_false]
theorem size_insInner (lt : Int → Int → Bool) (a j : Nat) (d : Array Int) : (insInner lt a j d).size = d.size := by
  induction j generalizing d with
  | zero => rfl
  | succ j ih =>
    rw [insInner]
    split
    · rw [ih, size_swp]
    · rfl
theorem insI_out (a b : Nat) : ∀ (k i : Nat) (d : Array Int) (n : Nat), b - i = k → b ≤ d.size → d.size < 4611686018427387904 → d.size < many → k < n →
    iterO insI_s0 n (d.toList, (a : Int), (b : Int), (i : Int), ()) = some (.inl ((insOuter ltInt a b i d).toList, ())) := by
  intro k
  induction k with
  | zero =>
    intro i d n hk hb hs hm hn
    obtain ⟨n, rfl⟩ : ∃ k, n = k + 1 := ⟨n - 1, by omega⟩
    have h0 : ¬ i < b := by omega
    rw [insOuter]
    simp only [iterO, insI_s0, ilt_nat, h0, decide_false, if_false]
  | succ k ih =>
    intro i d n hk hb hs hm hn
    obtain ⟨n, rfl⟩ : ∃ k, n = k + 1 := ⟨n - 1, by omega⟩
    have h0 : i < b := by omega
    have e1 : IntKind.wrap .i64 ((i : Int) + 1) = ((i + 1 : Nat) : Int) := by rw [wrap_in (by omega)]; omega
    rw [insOuter]
    simp only [iterO, insI_s0, ilt_nat, h0, decide_true, if_true, iterL_eq]
    rw [insI_in a b i i d many (by omega) hs (by omega)]
    simp only [e1]
    exact ih (i + 1) _ n (by omega) (by rw [size_insInner]; omega) (by rw [size_insInner]; omega) (by rw [size_insInner]; omega) (by omega)
theorem insI_val (d : Array Int) (a b : Nat) (hab : a ≤ b) (hb : b ≤ d.size) (hs : d.size < 4294967296) : insI (d.toList, (a : Int), (b : Int), ()) = some ((insertionSort ltInt d a b).toList, ()) := by
  have hm : d.size < many := by simp only [many]; omega
  have e1 : IntKind.wrap .i64 ((a : Int) + 1) = ((a + 1 : Nat) : Int) := by rw [wrap_in (by omega)]; omega
  rw [insI_eq, insI_d]
  simp only [e1, iterL_eq]
  rw [insI_out a b (b - (a + 1)) (a + 1) d many rfl hb (by omega) hm (by omega)]
  rfl
end Go.Pev.Pl.SI
end
section
namespace Go.Pev.Pl.SI
open Go.Sort
theorem siftI_loop (hi first : Nat) : ∀ (k root : Nat) (d : Array Int) (n : Nat), hi - root = k → root ≤ hi → first + hi ≤ d.size → d.size < 4294967296 → (hi = 0 ∨ root < hi) → k < n →
    iterO siftI_s0 n (d.toList, (hi : Int), (first : Int), (root : Int), ()) = some (.inl ((siftDown ltInt hi first root d).toList, ())) ∨
    iterO siftI_s0 n (d.toList, (hi : Int), (first : Int), (root : Int), ()) = some (.inr (.inl ((siftDown ltInt hi first root d).toList, ()))) := by
  intro k
  induction k using Nat.strongRecOn with
  | _ k ih =>
  intro root d n hk hr hf hs hz hn
  obtain ⟨n, rfl⟩ : ∃ k, n = k + 1 := ⟨n - 1, by omega⟩
  rw [siftDown]
  simp (disch := omega) only [iterO, siftI_s0, wrap_2mul, wrap_add1, wrap_add, ile_nat, ilt_nat]
  by_cases h1 : hi ≤ 2 * root + 1
  · simp only [h1, decide_true, ge_iff_le, dite_true, true_or]
  · have i0 : first + root < d.size := by omega
    have i1 : first + (2 * root + 1) < d.size := by omega
    simp only [h1, decide_false, ge_iff_le, if_false, dite_false]
    simp (disch := omega) only [idx_at, dget_at, lessI_val]
    by_cases h2 : 2 * root + 1 + 1 < hi
    · have i2 : first + (2 * root + 2) < d.size := by omega
      have i3 : 2 * root + 1 + 1 = 2 * root + 2 := by omega
      have i4 : first + (2 * root + 1) + 1 = first + (2 * root + 2) := by omega
      have h3 : 2 * root + 2 < hi := by omega
      simp only [i3, i4, h3, decide_true]
      simp (disch := omega) only [idx_at, dget_at, lessI_val, dset_at]
      cases h4 : ltInt d[first + (2 * root + 1)]! d[first + (2 * root + 2)]!
      · simp only [Bool.and_false, Bool.false_eq_true, if_false]
        cases h5 : ltInt d[first + root]! d[first + (2 * root + 1)]!
        · simp
        · simp only [Bool.not_true, Bool.false_eq_true, if_false]
          rw [idx_at (by simpa using i1)]
          simp only [swp_fold]
          exact ih (hi - (2 * root + 1)) (by omega) (2 * root + 1) _ n rfl (by omega) (by rw [size_swp]; omega) (by rw [size_swp]; omega) (by omega) (by omega)
      · simp only [Bool.and_true, if_true]
        cases h5 : ltInt d[first + root]! d[first + (2 * root + 2)]!
        · simp
        · simp only [Bool.not_true, Bool.false_eq_true, if_false, dite_true]
          rw [idx_at (by simpa using i2)]
          simp only [swp_fold]
          exact ih (hi - (2 * root + 2)) (by omega) (2 * root + 2) _ n rfl (by omega) (by rw [size_swp]; omega) (by rw [size_swp]; omega) (by omega) (by omega)
    · simp only [h2, decide_false, Bool.false_and, Bool.false_eq_true, if_false, dset_at]
      cases h5 : ltInt d[first + root]! d[first + (2 * root + 1)]!
      · simp
      · simp only [Bool.not_true, Bool.false_eq_true, if_false]
        rw [idx_at (by simpa using i1)]
        simp only [swp_fold]
        exact ih (hi - (2 * root + 1)) (by omega) (2 * root + 1) _ n rfl (by omega) (by rw [size_swp]; omega) (by rw [size_swp]; omega) (by omega) (by omega)
theorem siftI_val (d : Array Int) (root hi first : Nat) (hf : first + hi ≤ d.size) (hs : d.size < 4294967296) (hz : hi = 0 ∧ root = 0 ∨ root < hi) : siftI (d.toList, (root : Int), (hi : Int), (first : Int), ()) = some ((siftDown ltInt hi first root d).toList, ()) := by
  have hm : d.size < many := by simp only [many]; omega
  rw [siftI_eq, siftI_d]
  simp only [iterL_eq]
  rcases siftI_loop hi first (hi - root) root d many rfl (by omega) hf hs (by omega) (by omega) with h | h <;> rw [h]
theorem size_siftDown (lt : Int → Int → Bool) (hi first : Nat) : ∀ (k root : Nat) (d : Array Int), hi - root = k → (siftDown lt hi first root d).size = d.size := by
  intro k
  induction k using Nat.strongRecOn with
  | _ k ih =>
  intro root d hk
  rw [siftDown]
  split
  · rfl
  · split
    · split
      · rfl
      · split
        · rw [ih (hi - (2 * root + 2)) (by omega) _ _ rfl, size_swp]
        · rfl
    · split
      · rfl
      · rw [ih (hi - (2 * root + 1)) (by omega) _ _ rfl, size_swp]
theorem heapI_build (hi first : Nat) : ∀ (k : Nat) (d : Array Int) (n : Nat), (hi = 0 ∧ k ≤ 1 ∨ k ≤ hi) → first + hi ≤ d.size → d.size < 4294967296 → k < n →
    iterO heapI_s0 n (d.toList, (first : Int), (0 : Int), (hi : Int), (k : Int) - 1, ()) = some (.inl ((heapBuild ltInt hi first k d).toList, (first : Int), (0 : Int), (hi : Int), ())) := by
  intro k
  induction k with
  | zero =>
    intro d n hk hf hs hn
    obtain ⟨n, rfl⟩ : ∃ k, n = k + 1 := ⟨n - 1, by omega⟩
    rw [iterO, heapI_s0, ile_eq, decide_eq_false (by omega)]
    rfl
  | succ k ih =>
    intro d n hk hf hs hn
    obtain ⟨n, rfl⟩ : ∃ k, n = k + 1 := ⟨n - 1, by omega⟩
    have e0 : ((k + 1 : Nat) : Int) - 1 = (k : Int) := by omega
    rw [iterO, heapI_s0, e0, ile_eq, decide_eq_true (by omega)]
    simp only [siftI_val d k hi first hf hs (by omega)]
    rw [wrap_in (by omega)]
    exact ih _ n (by omega) (by rw [size_siftDown _ _ _ _ _ _ rfl]; omega) (by rw [size_siftDown _ _ _ _ _ _ rfl]; omega) (by omega)
theorem size_heapBuild (lt : Int → Int → Bool) (hi first : Nat) : ∀ (k : Nat) (d : Array Int), (heapBuild lt hi first k d).size = d.size := by
  intro k
  induction k with
  | zero => intro d; rfl
  | succ k ih => intro d; rw [heapBuild, ih, size_siftDown _ _ _ _ _ _ rfl]
theorem heapI_pop (first : Nat) : ∀ (k : Nat) (d : Array Int) (n : Nat), first + k ≤ d.size → d.size < 4294967296 → k < n →
    iterO heapI_s1 n (d.toList, (first : Int), (0 : Int), (k : Int) - 1, ()) = some (.inl ((heapPop ltInt first k d).toList, ())) := by
  intro k
  induction k with
  | zero =>
    intro d n hf hs hn
    obtain ⟨n, rfl⟩ : ∃ k, n = k + 1 := ⟨n - 1, by omega⟩
    rw [iterO, heapI_s1, ile_eq, decide_eq_false (by omega)]
    rfl
  | succ k ih =>
    intro d n hf hs hn
    obtain ⟨n, rfl⟩ : ∃ k, n = k + 1 := ⟨n - 1, by omega⟩
    have e0 : ((k + 1 : Nat) : Int) - 1 = (k : Int) := by omega
    have i0 : first < d.size := by omega
    have i1 : first + k < d.size := by omega
    rw [iterO, heapI_s1, e0, ile_eq, decide_eq_true (by omega)]
    simp (disch := omega) only [wrap_add, idx_at, dget_at, dset_at]
    rw [idx_at (by simpa using i1)]
    simp only [swp_fold]
    have := siftI_val (swp d first (first + k)) 0 k first (by rw [size_swp]; omega) (by rw [size_swp]; omega) (by omega)
    simp only [Int.natCast_zero] at this
    simp only [this]
    rw [wrap_in (by omega)]
    exact ih _ n (by rw [size_siftDown _ _ _ _ _ _ rfl, size_swp]; omega) (by rw [size_siftDown _ _ _ _ _ _ rfl, size_swp]; omega) (by omega)
theorem heapI_val (d : Array Int) (a b : Nat) (hab : a < b) (hb : b ≤ d.size) (hs : d.size < 4294967296) : heapI (d.toList, (a : Int), (b : Int), ()) = some ((heapSort ltInt d a b).toList, ()) := by
  have hm : 4294967296 < many := by simp only [many]; omega
  rw [heapI_eq, heapI_d]
  simp (disch := omega) only [wrap_sub, wrap_sub1, quo_2, iterL_eq]
  have e : (((b - a - 1) / 2 : Nat) : Int) = (((b - a - 1) / 2 + 1 : Nat) : Int) - 1 := by omega
  rw [e, heapI_build (b - a) a _ d many (by omega) (by omega) hs (by omega)]
  have e2 : (((b - a - 1 : Nat)) : Int) = ((b - a : Nat) : Int) - 1 := by omega
  simp (disch := omega) only [wrap_sub1, e2]
  rw [heapI_pop a (b - a) _ many (by rw [size_heapBuild]; omega) (by rw [size_heapBuild]; omega) (by omega)]
  rfl
end Go.Pev.Pl.SI
end
section
namespace Go.Pev.Pl.SI
open Go.Sort
theorem revI_loop : ∀ (k i j : Nat) (d : Array Int) (n : Nat), j - i = k → (j < d.size) → d.size < 4294967296 → k < n →
    iterO revI_s0 n (d.toList, (i : Int), (j : Int), ()) = some (.inl ((reverseLoop i j d).toList, ())) := by
  intro k
  induction k using Nat.strongRecOn with
  | _ k ih =>
  intro i j d n hk hj hs hn
  obtain ⟨n, rfl⟩ : ∃ k, n = k + 1 := ⟨n - 1, by omega⟩
  rw [reverseLoop, iterO, revI_s0]
  simp only [ilt_nat]
  by_cases h : i < j
  · have hi : i < d.size := by omega
    simp only [h, decide_true, if_true, idx_at hj, idx_at hi, dget_at hi, dget_at hj, dset_at]
    rw [idx_at (by simpa using hj)]
    simp (disch := omega) only [swp_fold, wrap_add1, wrap_sub1]
    exact ih (j - 1 - (i + 1)) (by omega) (i + 1) (j - 1) _ n rfl (by rw [size_swp]; omega) (by rw [size_swp]; omega) (by omega)
  · simp only [h, decide_false, if_false]
theorem revI_val (d : Array Int) (a b : Nat) (hab : a < b) (hb : b ≤ d.size) (hs : d.size < 4294967296) : revI (d.toList, (a : Int), (b : Int), ()) = some ((reverseRange d a b).toList, ()) := by
  have hm : 4294967296 < many := by simp only [many]; omega
  rw [revI_eq, revI_d]
  simp (disch := omega) only [wrap_sub1, iterL_eq]
  rw [revI_loop (b - 1 - a) a (b - 1) d many rfl (by omega) hs (by omega)]
  rfl
theorem swapI {d : Array Int} {i j : Nat} (hi : i < d.size) (hj : j < d.size) : idx (dset d.toList (dnat (i : Int)) (dget d.toList (dnat (j : Int)) 0)) (j : Int) = some (d.setIfInBounds i d[j]!)[j]! ∧
    dset (dset d.toList (dnat (i : Int)) (dget d.toList (dnat (j : Int)) 0)) (dnat (j : Int)) (dget d.toList (dnat (i : Int)) 0) = (swp d i j).toList := by
  rw [dget_at hi, dget_at hj, dset_at, dset_at]
  exact ⟨idx_at (by simpa using hj), rfl⟩
theorem scanUpI (step : List Int × Int × Int × Int × Unit → Option ((List Int × Int × Int × Int × Unit) ⊕ (List Int × Int × Int × Int × Unit) ⊕ Unit)) (p : Int → Bool) (d : Array Int) (a j : Nat) (hs : d.size < 4294967296) (hj : j < d.size)
    (h : ∀ i : Nat, i ≤ d.size → step (d.toList, (a : Int), (i : Int), (j : Int), ()) = if i ≤ j ∧ p d[i]! then some (.inl (d.toList, (a : Int), ((i + 1 : Nat) : Int), (j : Int), ())) else some (.inr (.inl (d.toList, (a : Int), (i : Int), (j : Int), ())))) :
    ∀ (k i n : Nat), j + 1 - i = k → i ≤ d.size → k < n → iterO step n (d.toList, (a : Int), (i : Int), (j : Int), ()) = some (.inl (d.toList, (a : Int), ((scanUp p d j i : Nat) : Int), (j : Int), ())) := by
  intro k
  induction k using Nat.strongRecOn with
  | _ k ih =>
  intro i n hk hi hn
  obtain ⟨n, rfl⟩ : ∃ k, n = k + 1 := ⟨n - 1, by omega⟩
  rw [scanUp, iterO, h i hi]
  by_cases h1 : i ≤ j ∧ p d[i]! = true
  · rw [if_pos h1, if_pos (by simpa using h1)]
    exact ih (j + 1 - (i + 1)) (by omega) (i + 1) n rfl (by omega) (by omega)
  · rw [if_neg h1, if_neg (by simpa using h1)]
theorem scanDownI (step : List Int × Int × Int × Int × Unit → Option ((List Int × Int × Int × Int × Unit) ⊕ (List Int × Int × Int × Int × Unit) ⊕ Unit)) (p : Int → Bool) (d : Array Int) (a i : Nat) (hi : 1 ≤ i)
    (h : ∀ j : Nat, j < d.size → step (d.toList, (a : Int), (i : Int), (j : Int), ()) = if i ≤ j ∧ p d[j]! then some (.inl (d.toList, (a : Int), (i : Int), ((j - 1 : Nat) : Int), ())) else some (.inr (.inl (d.toList, (a : Int), (i : Int), (j : Int), ())))) :
    ∀ (j n : Nat), j < d.size → j < n → iterO step n (d.toList, (a : Int), (i : Int), (j : Int), ()) = some (.inl (d.toList, (a : Int), (i : Int), ((scanDown p d i j : Nat) : Int), ())) := by
  intro j
  induction j with
  | zero =>
    intro n hj hn
    obtain ⟨n, rfl⟩ : ∃ k, n = k + 1 := ⟨n - 1, by omega⟩
    rw [iterO, h 0 hj, if_neg (by omega)]
    rfl
  | succ j ih =>
    intro n hj hn
    obtain ⟨n, rfl⟩ : ∃ k, n = k + 1 := ⟨n - 1, by omega⟩
    rw [scanDown, iterO, h (j + 1) hj]
    by_cases h1 : i ≤ j + 1 ∧ p d[j + 1]! = true
    · rw [if_pos h1, if_pos (by simpa using h1)]
      exact ih n (by omega) (by omega)
    · rw [if_neg h1, if_neg (by simpa using h1)]
section
variable (d : Array Int) (a i j : Nat) (hs : d.size < 4294967296) (ha : a < d.size) (hj : j < d.size)
include hs ha hj
theorem partI_s0_at (hi : i ≤ d.size) : partI_s0 (d.toList, (a : Int), (i : Int), (j : Int), ()) = if i ≤ j ∧ (fun x => ltInt x d[a]!) d[i]! = true then some (.inl (d.toList, (a : Int), ((i + 1 : Nat) : Int), (j : Int), ())) else some (.inr (.inl (d.toList, (a : Int), (i : Int), (j : Int), ()))) := by
  rw [partI_s0]
  simp only [ile_nat]
  by_cases h : i ≤ j
  · have hi' : i < d.size := by omega
    simp (disch := omega) only [h, decide_true, idx_at, dget_at, lessI_val, wrap_add1, true_and]
    cases ltInt d[i]! d[a]! <;> simp
  · simp only [h, decide_false, false_and, if_false]
theorem partI_s3_at (hi : i ≤ d.size) : partI_s3 (d.toList, (a : Int), (i : Int), (j : Int), ()) = if i ≤ j ∧ (fun x => ltInt x d[a]!) d[i]! = true then some (.inl (d.toList, (a : Int), ((i + 1 : Nat) : Int), (j : Int), ())) else some (.inr (.inl (d.toList, (a : Int), (i : Int), (j : Int), ()))) := by
  rw [partI_s3]
  simp only [ile_nat]
  by_cases h : i ≤ j
  · have hi' : i < d.size := by omega
    simp (disch := omega) only [h, decide_true, idx_at, dget_at, lessI_val, wrap_add1, true_and]
    cases ltInt d[i]! d[a]! <;> simp
  · simp only [h, decide_false, false_and, if_false]
theorem partI_s1_at (hi : 1 ≤ i) : partI_s1 (d.toList, (a : Int), (i : Int), (j : Int), ()) = if i ≤ j ∧ (fun x => !ltInt x d[a]!) d[j]! = true then some (.inl (d.toList, (a : Int), (i : Int), ((j - 1 : Nat) : Int), ())) else some (.inr (.inl (d.toList, (a : Int), (i : Int), (j : Int), ()))) := by
  rw [partI_s1]
  simp only [ile_nat]
  by_cases h : i ≤ j
  · simp (disch := omega) only [h, decide_true, idx_at, dget_at, lessI_val, wrap_sub1, true_and]
    cases ltInt d[j]! d[a]! <;> simp
  · simp only [h, decide_false, false_and, if_false]
theorem partI_s4_at (hi : 1 ≤ i) : partI_s4 (d.toList, (a : Int), (i : Int), (j : Int), ()) = if i ≤ j ∧ (fun x => !ltInt x d[a]!) d[j]! = true then some (.inl (d.toList, (a : Int), (i : Int), ((j - 1 : Nat) : Int), ())) else some (.inr (.inl (d.toList, (a : Int), (i : Int), (j : Int), ()))) := by
  rw [partI_s4]
  simp only [ile_nat]
  by_cases h : i ≤ j
  · simp (disch := omega) only [h, decide_true, idx_at, dget_at, lessI_val, wrap_sub1, true_and]
    cases ltInt d[j]! d[a]! <;> simp
  · simp only [h, decide_false, false_and, if_false]
theorem partEqI_s1_at (hi : i ≤ d.size) : partEqI_s1 (d.toList, (a : Int), (i : Int), (j : Int), ()) = if i ≤ j ∧ (fun x => !ltInt d[a]! x) d[i]! = true then some (.inl (d.toList, (a : Int), ((i + 1 : Nat) : Int), (j : Int), ())) else some (.inr (.inl (d.toList, (a : Int), (i : Int), (j : Int), ()))) := by
  rw [partEqI_s1]
  simp only [ile_nat]
  by_cases h : i ≤ j
  · have hi' : i < d.size := by omega
    simp (disch := omega) only [h, decide_true, idx_at, dget_at, lessI_val, wrap_add1, true_and]
    cases ltInt d[a]! d[i]! <;> simp
  · simp only [h, decide_false, false_and, if_false]
theorem partEqI_s2_at (hi : 1 ≤ i) : partEqI_s2 (d.toList, (a : Int), (i : Int), (j : Int), ()) = if i ≤ j ∧ (fun x => ltInt d[a]! x) d[j]! = true then some (.inl (d.toList, (a : Int), (i : Int), ((j - 1 : Nat) : Int), ())) else some (.inr (.inl (d.toList, (a : Int), (i : Int), (j : Int), ()))) := by
  rw [partEqI_s2]
  simp only [ile_nat]
  by_cases h : i ≤ j
  · simp (disch := omega) only [h, decide_true, idx_at, dget_at, lessI_val, wrap_sub1, true_and]
    cases ltInt d[a]! d[j]! <;> simp
  · simp only [h, decide_false, false_and, if_false]
end
theorem scanUp_size (p : Int → Bool) (d : Array Int) (j i : Nat) (hj : j < d.size) (hi : i ≤ d.size) : scanUp p d j i ≤ d.size := by
  suffices h : ∀ (k i : Nat), j + 1 - i = k → i ≤ d.size → scanUp p d j i ≤ d.size from h _ i rfl hi
  intro k
  induction k using Nat.strongRecOn with
  | _ k ih =>
  intro i hk hi
  rw [scanUp]
  split
  · rename_i h
    have : i ≤ j := by simp at h; exact h.1
    exact ih (j + 1 - (i + 1)) (by omega) (i + 1) rfl (by omega)
  · exact hi
theorem partI_loop (a : Nat) : ∀ (k i j : Nat) (d : Array Int) (n : Nat), j + 1 - i = k → a < d.size → 1 ≤ i → i ≤ d.size → j < d.size → d.size < 4294967296 → k < n →
    iterO partI_s2 n (d.toList, (a : Int), (i : Int), (j : Int), ()) = some (.inl ((partLoop ltInt a i j d).2.toList, (a : Int), (((partLoop ltInt a i j d).1 : Nat) : Int), ())) ∧ (partLoop ltInt a i j d).1 ≤ j ∧ (partLoop ltInt a i j d).2.size = d.size := by
  intro k
  induction k using Nat.strongRecOn with
  | _ k ih =>
  intro i j d n hk ha hi hi' hj hs hn
  have hm : 4294967296 < many := by simp only [many]; omega
  obtain ⟨n, rfl⟩ : ∃ k, n = k + 1 := ⟨n - 1, by omega⟩
  rw [partLoop_eq, iterO, partI_s2]
  have u1 := scanUp_ge (fun x => ltInt x d[a]!) d j i
  have u2 := scanUp_size (fun x => ltInt x d[a]!) d j i hj hi'
  rw [iterL_eq, scanUpI _ (fun x => ltInt x d[a]!) d a j hs hj (fun i h => partI_s3_at d a i j hs ha hj h) _ i many rfl hi' (by omega)]
  generalize scanUp (fun x => ltInt x d[a]!) d j i = i2 at *
  have v1 := scanDown_le (fun x => !ltInt x d[a]!) d i2 j
  simp only [iterL_eq]
  rw [scanDownI _ (fun x => !ltInt x d[a]!) d a i2 (by omega) (fun j h => partI_s4_at d a i2 j hs ha h (by omega)) j many hj (by omega)]
  generalize scanDown (fun x => !ltInt x d[a]!) d i2 j = j2 at *
  simp only [ilt_nat]
  by_cases h : j2 < i2
  · simp only [h, decide_true, gt_iff_lt, if_true]
    exact ⟨trivial, v1, trivial⟩
  · have hi2 : i2 < d.size := by omega
    have hj2 : j2 < d.size := by omega
    simp only [h, decide_false, gt_iff_lt, if_false, idx_at hi2, idx_at hj2, (swapI hi2 hj2).1, (swapI hi2 hj2).2]
    simp (disch := omega) only [wrap_add1, wrap_sub1]
    obtain ⟨q1, q2, q3⟩ := ih (j2 - 1 + 1 - (i2 + 1)) (by omega) (i2 + 1) (j2 - 1) (swp d i2 j2) n rfl (by rw [size_swp]; omega) (by omega) (by rw [size_swp]; omega) (by rw [size_swp]; omega) (by rw [size_swp]; omega) (by omega)
    exact ⟨q1, by omega, by rw [q3, size_swp]⟩
theorem partI_val (d : Array Int) (a b p : Nat) (ha : a ≤ p) (hp : p < b) (hb : b ≤ d.size) (hs : d.size < 4294967296) :
    partI (d.toList, (a : Int), (b : Int), (p : Int), ()) = some ((partition ltInt d a b p).2.2.toList, (((partition ltInt d a b p).1 : Nat) : Int), (partition ltInt d a b p).2.1, ()) := by
  have hm : 4294967296 < many := by simp only [many]; omega
  have ha' : a < d.size := by omega
  have hp' : p < d.size := by omega
  rw [partI_eq, partI_d, partition]
  simp only [idx_at ha', idx_at hp', (swapI ha' hp').1, (swapI ha' hp').2]
  have hs' := hs
  rw [← size_swp d a p] at ha' hs' hb
  generalize swp d a p = d at *
  simp (disch := omega) only [wrap_add1, wrap_sub1, iterL_eq]
  have u1 := scanUp_ge (fun x => ltInt x d[a]!) d (b - 1) (a + 1)
  have u2 := scanUp_size (fun x => ltInt x d[a]!) d (b - 1) (a + 1) (by omega) (by omega)
  rw [scanUpI _ (fun x => ltInt x d[a]!) d a (b - 1) hs' (by omega) (fun i h => partI_s0_at d a i (b - 1) hs' ha' (by omega) h) _ (a + 1) many rfl (by omega) (by omega)]
  generalize scanUp (fun x => ltInt x d[a]!) d (b - 1) (a + 1) = i2 at *
  have v1 := scanDown_le (fun x => !ltInt x d[a]!) d i2 (b - 1)
  simp only []
  rw [scanDownI _ (fun x => !ltInt x d[a]!) d a i2 (by omega) (fun j h => partI_s1_at d a i2 j hs' ha' h (by omega)) (b - 1) many (by omega) (by omega)]
  generalize scanDown (fun x => !ltInt x d[a]!) d i2 (b - 1) = j2 at *
  simp only [ilt_nat]
  have hj2 : j2 < d.size := by omega
  by_cases h : j2 < i2
  · simp only [h, decide_true, gt_iff_lt, if_true, idx_at ha', idx_at hj2, (swapI hj2 ha').1, (swapI hj2 ha').2]
  · have hi2 : i2 < d.size := by omega
    simp only [h, decide_false, gt_iff_lt, if_false, idx_at hi2, idx_at hj2, (swapI hi2 hj2).1, (swapI hi2 hj2).2]
    simp (disch := omega) only [wrap_add1, wrap_sub1]
    obtain ⟨q1, q2, q3⟩ := partI_loop a (j2 - 1 + 1 - (i2 + 1)) (i2 + 1) (j2 - 1) (swp d i2 j2) many rfl (by rw [size_swp]; omega) (by omega) (by rw [size_swp]; omega) (by rw [size_swp]; omega) (by rw [size_swp]; omega) (by omega)
    simp only [q1]
    rw [size_swp] at q3
    generalize partLoop ltInt a (i2 + 1) (j2 - 1) (swp d i2 j2) = r at *
    have h1 : r.1 < r.2.size := by omega
    have h2 : a < r.2.size := by omega
    simp only [idx_at h1, idx_at h2, (swapI h1 h2).1, (swapI h1 h2).2]
theorem partEqI_loop (a : Nat) : ∀ (k i j : Nat) (d : Array Int) (n : Nat), j + 1 - i = k → a < d.size → 1 ≤ i → i ≤ d.size → j < d.size → d.size < 4294967296 → k < n →
    iterO partEqI_s0 n (d.toList, (a : Int), (i : Int), (j : Int), ()) = some (.inl ((partEqLoop ltInt a i j d).2.toList, (((partEqLoop ltInt a i j d).1 : Nat) : Int), ())) := by
  intro k
  induction k using Nat.strongRecOn with
  | _ k ih =>
  intro i j d n hk ha hi hi' hj hs hn
  have hm : 4294967296 < many := by simp only [many]; omega
  obtain ⟨n, rfl⟩ : ∃ k, n = k + 1 := ⟨n - 1, by omega⟩
  rw [partEqLoop_eq, iterO, partEqI_s0]
  have u1 := scanUp_ge (fun x => !ltInt d[a]! x) d j i
  have u2 := scanUp_size (fun x => !ltInt d[a]! x) d j i hj hi'
  rw [iterL_eq, scanUpI _ (fun x => !ltInt d[a]! x) d a j hs hj (fun i h => partEqI_s1_at d a i j hs ha hj h) _ i many rfl hi' (by omega)]
  generalize scanUp (fun x => !ltInt d[a]! x) d j i = i2 at *
  have v1 := scanDown_le (fun x => ltInt d[a]! x) d i2 j
  simp only [iterL_eq]
  rw [scanDownI _ (fun x => ltInt d[a]! x) d a i2 (by omega) (fun j h => partEqI_s2_at d a i2 j hs ha h (by omega)) j many hj (by omega)]
  generalize scanDown (fun x => ltInt d[a]! x) d i2 j = j2 at *
  simp only [ilt_nat]
  by_cases h : j2 < i2
  · simp only [h, decide_true, gt_iff_lt, if_true]
  · have hi2 : i2 < d.size := by omega
    have hj2 : j2 < d.size := by omega
    simp only [h, decide_false, gt_iff_lt, if_false, idx_at hi2, idx_at hj2, (swapI hi2 hj2).1, (swapI hi2 hj2).2]
    simp (disch := omega) only [wrap_add1, wrap_sub1]
    exact ih (j2 - 1 + 1 - (i2 + 1)) (by omega) (i2 + 1) (j2 - 1) (swp d i2 j2) n rfl (by rw [size_swp]; omega) (by omega) (by rw [size_swp]; omega) (by rw [size_swp]; omega) (by rw [size_swp]; omega) (by omega)
theorem partEqI_val (d : Array Int) (a b p : Nat) (ha : a ≤ p) (hp : p < b) (hb : b ≤ d.size) (hs : d.size < 4294967296) :
    partEqI (d.toList, (a : Int), (b : Int), (p : Int), ()) = some ((partitionEqual ltInt d a b p).2.toList, (((partitionEqual ltInt d a b p).1 : Nat) : Int), ()) := by
  have hm : 4294967296 < many := by simp only [many]; omega
  have ha' : a < d.size := by omega
  have hp' : p < d.size := by omega
  rw [partEqI_eq, partEqI_d, partitionEqual]
  simp only [idx_at ha', idx_at hp', (swapI ha' hp').1, (swapI ha' hp').2]
  have hs' := hs
  rw [← size_swp d a p] at ha' hs' hb
  generalize swp d a p = d at *
  simp (disch := omega) only [wrap_add1, wrap_sub1, iterL_eq]
  rw [partEqI_loop a _ (a + 1) (b - 1) d many rfl ha' (by omega) (by omega) (by omega) hs' (by omega)]
end Go.Pev.Pl.SI
end
section
namespace Go.Pev.Pl.SI
open Go.Sort
theorem scanSorted_bounds (d : Array Int) (b : Nat) : ∀ (k i : Nat), b - i = k → i ≤ b → i ≤ scanSorted ltInt d b i ∧ scanSorted ltInt d b i ≤ b := by
  intro k
  induction k using Nat.strongRecOn with
  | _ k ih =>
  intro i hk hi
  rw [scanSorted]
  split
  · rename_i h
    have : i < b := by simp at h; exact h.1
    have := ih (b - (i + 1)) (by omega) (i + 1) rfl (by omega)
    omega
  · omega
theorem partInsI_scan (d : Array Int) (a b s : Nat) (hb : b ≤ d.size) (hs : d.size < 4294967296) : ∀ (k i n : Nat), b - i = k → 1 ≤ i → i ≤ b → k < n →
    iterO partInsI_s1 n (d.toList, (a : Int), (b : Int), (i : Int), (s : Int), ()) = some (.inl (d.toList, (a : Int), (b : Int), ((scanSorted ltInt d b i : Nat) : Int), (s : Int), ())) := by
  intro k
  induction k using Nat.strongRecOn with
  | _ k ih =>
  intro i n hk h1 hi hn
  obtain ⟨n, rfl⟩ : ∃ k, n = k + 1 := ⟨n - 1, by omega⟩
  rw [scanSorted, iterO, partInsI_s1]
  simp only [ilt_nat]
  by_cases h : i < b
  · have i0 : i < d.size := by omega
    have i1 : i - 1 < d.size := by omega
    simp (disch := omega) only [h, decide_true, wrap_sub1, wrap_add1, idx_at, dget_at, lessI_val, Bool.true_and]
    cases h2 : ltInt d[i]! d[i - 1]!
    · simp only [Bool.not_false, if_true]
      exact ih (b - (i + 1)) (by omega) (i + 1) n rfl (by omega) (by omega) (by omega)
    · simp only [Bool.not_true, Bool.false_eq_true, if_false]
  · simp only [h, decide_false, Bool.false_and, Bool.false_eq_true, if_false]
theorem partInsI_down (a b i s : Nat) : ∀ (j : Nat) (d : Array Int) (n : Nat), j < d.size → d.size < 4294967296 → j < n →
    iterO partInsI_s2 n (d.toList, (a : Int), (b : Int), (i : Int), (s : Int), (j : Int), ()) = some (.inl ((shiftDown ltInt j d).toList, (a : Int), (b : Int), (i : Int), (s : Int), ())) := by
  intro j
  induction j with
  | zero =>
    intro d n hj hs hn
    obtain ⟨n, rfl⟩ : ∃ k, n = k + 1 := ⟨n - 1, by omega⟩
    rw [iterO, partInsI_s2, ile_eq, decide_eq_false (by omega)]
    rfl
  | succ j ih =>
    intro d n hj hs hn
    obtain ⟨n, rfl⟩ : ∃ k, n = k + 1 := ⟨n - 1, by omega⟩
    have hj' : j < d.size := by omega
    rw [shiftDown, iterO, partInsI_s2, ile_eq, decide_eq_true (by omega)]
    simp (disch := omega) only [wrap_sub1, Nat.add_sub_cancel, idx_at, dget_at, lessI_val]
    cases h2 : ltInt d[j + 1]! d[j]!
    · simp only [Bool.not_false, if_true]
    · have e1 := swapI hj hj'
      simp only [dget_at hj, dget_at hj'] at e1
      simp only [Bool.not_true, Bool.false_eq_true, if_false, e1]
      exact ih _ n (by rw [size_swp]; omega) (by rw [size_swp]; omega) (by omega)
theorem partInsI_up (a b i s : Nat) : ∀ (k j : Nat) (d : Array Int) (n : Nat), b - j = k → 1 ≤ j → b ≤ d.size → d.size < 4294967296 → k < n →
    iterO partInsI_s3 n (d.toList, (a : Int), (b : Int), (i : Int), (s : Int), (j : Int), ()) = some (.inl ((shiftUp ltInt b j d).toList, (a : Int), (b : Int), (i : Int), (s : Int), ())) := by
  intro k
  induction k using Nat.strongRecOn with
  | _ k ih =>
  intro j d n hk h1 hb hs hn
  obtain ⟨n, rfl⟩ : ∃ k, n = k + 1 := ⟨n - 1, by omega⟩
  rw [shiftUp, iterO, partInsI_s3]
  simp only [ilt_nat]
  by_cases h : j < b
  · have i0 : j < d.size := by omega
    have i1 : j - 1 < d.size := by omega
    simp (disch := omega) only [h, decide_true, if_true, wrap_sub1, wrap_add1, idx_at, dget_at, lessI_val]
    cases h2 : ltInt d[j]! d[j - 1]!
    · simp only [Bool.not_false, if_true]
    · have e1 := swapI i0 i1
      simp only [dget_at i0, dget_at i1] at e1
      simp only [Bool.not_true, Bool.false_eq_true, if_false, e1]
      exact ih (b - (j + 1)) (by omega) (j + 1) _ n rfl (by omega) (by rw [size_swp]; omega) (by rw [size_swp]; omega) (by omega)
  · simp only [h, decide_false, if_false]
theorem size_shiftDown : ∀ (j : Nat) (d : Array Int), (shiftDown ltInt j d).size = d.size := by
  intro j
  induction j with
  | zero => intro d; rfl
  | succ j ih =>
    intro d
    rw [shiftDown]
    split
    · rfl
    · rw [ih, size_swp]
theorem size_shiftUp (b : Nat) : ∀ (k j : Nat) (d : Array Int), b - j = k → (shiftUp ltInt b j d).size = d.size := by
  intro k
  induction k using Nat.strongRecOn with
  | _ k ih =>
  intro j d hk
  rw [shiftUp]
  split
  · split
    · rfl
    · rw [ih (b - (j + 1)) (by omega) (j + 1) _ rfl, size_swp]
  · rfl
theorem partInsI_loop (a b : Nat) (hab : a < b) : ∀ (k i s : Nat) (d : Array Int) (n : Nat), s + k = 5 → a + 1 ≤ i → i ≤ b → b ≤ d.size → d.size < 4294967296 → k < n →
    iterO partInsI_s0 n (d.toList, (a : Int), (b : Int), (i : Int), (s : Int), ()) = some (.inl ((partialIns ltInt a b k i d).1.toList, (partialIns ltInt a b k i d).2, ())) ∨
    ((partialIns ltInt a b k i d).2 = false ∧ iterO partInsI_s0 n (d.toList, (a : Int), (b : Int), (i : Int), (s : Int), ()) = some (.inr (.inl ((partialIns ltInt a b k i d).1.toList, ())))) := by
  intro k
  induction k with
  | zero =>
    intro i s d n hk h1 hi hb hs hn
    obtain ⟨n, rfl⟩ : ∃ k, n = k + 1 := ⟨n - 1, by omega⟩
    rw [iterO, partInsI_s0, ilt_eq, decide_eq_false (by omega)]
    exact .inr ⟨rfl, rfl⟩
  | succ k ih =>
    intro i s d n hk h1 hi hb hs hn
    have hm : 4294967296 < many := by simp only [many]; omega
    have es : IntKind.wrap .i64 ((s : Int) + 1) = ((s + 1 : Nat) : Int) := wrap_add1 (by omega)
    obtain ⟨n, rfl⟩ : ∃ k, n = k + 1 := ⟨n - 1, by omega⟩
    rw [iterO, partInsI_s0, ilt_eq, decide_eq_true (by omega), partialIns]
    simp only [iterL_eq, partInsI_scan d a b s hb hs (b - i) i many rfl (by omega) hi (by omega)]
    have hsc := scanSorted_bounds d b _ i rfl hi
    generalize scanSorted ltInt d b i = i2 at *
    simp only [ieq_nat]
    by_cases h2 : i2 = b
    · simp only [h2, decide_true, if_true, true_or]
    · simp (disch := omega) only [h2, decide_false, if_false, wrap_sub, ilt_eq, ile_eq]
      by_cases h3 : b - a < 50
      · rw [if_pos h3, decide_eq_true (by omega)]
        exact .inl rfl
      · have i0 : i2 < d.size := by omega
        have i1 : i2 - 1 < d.size := by omega
        rw [if_neg h3, decide_eq_false (by omega)]
        simp (disch := omega) only [wrap_sub1, wrap_add1, idx_at i0, idx_at i1, (swapI i0 i1).1, (swapI i0 i1).2]
        have hsz := size_swp d i2 (i2 - 1)
        generalize swp d i2 (i2 - 1) = d2 at *
        by_cases h4 : i2 - a ≥ 2
        · rw [if_pos h4, decide_eq_true (show (2 : Int) ≤ ((i2 - a : Nat) : Int) by omega)]
          simp only [partInsI_down a b i2 s (i2 - 1) d2 many (by omega) (by omega) (by omega)]
          have hsz2 := size_shiftDown (i2 - 1) d2
          generalize shiftDown ltInt (i2 - 1) d2 = d3 at *
          simp (disch := omega) only [wrap_sub, wrap_add1]
          by_cases h5 : b - i2 ≥ 2
          · rw [if_pos h5, decide_eq_true (show (2 : Int) ≤ ((b - i2 : Nat) : Int) by omega)]
            simp only [partInsI_up a b i2 s _ (i2 + 1) d3 many rfl (by omega) (by omega) (by omega) (by omega)]
            simp only [es]
            exact ih i2 (s + 1) (shiftUp ltInt b (i2 + 1) d3) n (by omega) (by omega) (by omega) (by rw [size_shiftUp b (b - (i2 + 1)) (i2 + 1) _ rfl]; omega) (by rw [size_shiftUp b (b - (i2 + 1)) (i2 + 1) _ rfl]; omega) (by omega)
          · rw [if_neg h5, decide_eq_false (show ¬ (2 : Int) ≤ ((b - i2 : Nat) : Int) by omega)]
            simp only [es]
            exact ih i2 (s + 1) d3 n (by omega) (by omega) (by omega) (by omega) (by omega) (by omega)
        · rw [if_neg h4, decide_eq_false (show ¬ (2 : Int) ≤ ((i2 - a : Nat) : Int) by omega)]
          by_cases h5 : b - i2 ≥ 2
          · rw [if_pos h5, decide_eq_true (show (2 : Int) ≤ ((b - i2 : Nat) : Int) by omega)]
            simp only [partInsI_up a b i2 s _ (i2 + 1) d2 many rfl (by omega) (by omega) (by omega) (by omega)]
            simp only [es]
            exact ih i2 (s + 1) (shiftUp ltInt b (i2 + 1) d2) n (by omega) (by omega) (by omega) (by rw [size_shiftUp b (b - (i2 + 1)) (i2 + 1) _ rfl]; omega) (by rw [size_shiftUp b (b - (i2 + 1)) (i2 + 1) _ rfl]; omega) (by omega)
          · rw [if_neg h5, decide_eq_false (show ¬ (2 : Int) ≤ ((b - i2 : Nat) : Int) by omega)]
            simp only [es]
            exact ih i2 (s + 1) d2 n (by omega) (by omega) (by omega) (by omega) (by omega) (by omega)
theorem partInsI_val (d : Array Int) (a b : Nat) (hab : a < b) (hb : b ≤ d.size) (hs : d.size < 4294967296) :
    partInsI (d.toList, (a : Int), (b : Int), ()) = some ((partialInsertionSort ltInt d a b).1.toList, (partialInsertionSort ltInt d a b).2, ()) := by
  have hm : 4294967296 < many := by simp only [many]; omega
  rw [partInsI_eq, partInsI_d, partialInsertionSort]
  simp (disch := omega) only [wrap_add1, iterL_eq]
  have h := partInsI_loop a b hab 5 (a + 1) 0 d many rfl (Nat.le_refl _) (by omega) hb hs (by omega)
  rcases h with h | ⟨h0, h⟩
  · have h' : iterO partInsI_s0 many (d.toList, (a : Int), (b : Int), ((a + 1 : Nat) : Int), (0 : Int), ()) = _ := h
    rw [h']
  · have h' : iterO partInsI_s0 many (d.toList, (a : Int), (b : Int), ((a + 1 : Nat) : Int), (0 : Int), ()) = _ := h
    rw [h', h0]
theorem order2I_val (d : Array Int) (a b : Nat) (s : Int) (ha : a < d.size) (hb : b < d.size) :
    ∃ s' p q, order2I (d.toList, (a : Int), (b : Int), s, ()) = some (d.toList, s', ((p : Nat) : Int), ((q : Nat) : Int), ()) ∧ (p = a ∧ q = b ∨ p = b ∧ q = a) := by
  rw [order2I_eq, order2I_d]
  simp only [idx_at ha, idx_at hb, dget_at ha, dget_at hb, lessI_val]
  cases ltInt d[b]! d[a]!
  · exact ⟨_, a, b, rfl, .inl ⟨rfl, rfl⟩⟩
  · exact ⟨_, b, a, rfl, .inr ⟨rfl, rfl⟩⟩
theorem medianI_val (d : Array Int) (a b c : Nat) (s : Int) (ha : a < d.size) (hb : b < d.size) (hc : c < d.size) :
    ∃ s' p, medianI (d.toList, (a : Int), (b : Int), (c : Int), s, ()) = some (d.toList, s', ((p : Nat) : Int), ()) ∧ (p = a ∨ p = b ∨ p = c) := by
  rw [medianI_eq, medianI_d]
  obtain ⟨s1, p1, q1, e1, h1⟩ := order2I_val d a b s ha hb
  simp only [e1]
  obtain ⟨s2, p2, q2, e2, h2⟩ := order2I_val d q1 c s1 (by omega) hc
  simp only [e2]
  obtain ⟨s3, p3, q3, e3, h3⟩ := order2I_val d p1 p2 s2 (by omega) (by omega)
  simp only [e3]
  exact ⟨_, q3, rfl, by omega⟩
theorem medAdjI_val (d : Array Int) (a : Nat) (s : Int) (h1 : 1 ≤ a) (ha : a + 1 < d.size) (hs : d.size < 4294967296) :
    ∃ s' p, medAdjI (d.toList, (a : Int), s, ()) = some (d.toList, s', ((p : Nat) : Int), ()) ∧ a ≤ p + 1 ∧ p ≤ a + 1 := by
  rw [medAdjI_eq, medAdjI_d]
  simp (disch := omega) only [wrap_sub1, wrap_add1]
  obtain ⟨s1, p1, e1, h1⟩ := medianI_val d (a - 1) a (a + 1) s (by omega) (by omega) ha
  simp only [e1]
  exact ⟨_, p1, rfl, by omega⟩
theorem pivotI_val (d : Array Int) (a b : Nat) (hab : a + 8 ≤ b) (hb : b ≤ d.size) (hs : d.size < 4294967296) :
    ∃ p h, pivotI (d.toList, (a : Int), (b : Int), ()) = some (d.toList, ((p : Nat) : Int), h, ()) ∧ a ≤ p ∧ p < b := by
  rw [pivotI_eq, pivotI_d]
  simp (disch := omega) only [wrap_sub, quo_4, wrap_mul1, wrap_mul2, wrap_mul3, wrap_add, ile_eq]
  rw [decide_eq_true (show (8 : Int) ≤ ((b - a : Nat) : Int) by omega)]
  simp only []
  by_cases h : 50 ≤ b - a
  · rw [decide_eq_true (show (50 : Int) ≤ ((b - a : Nat) : Int) by omega)]
    simp only []
    obtain ⟨s1, p1, e1, h1⟩ := medAdjI_val d (a + (b - a) / 4 * 1) 0 (by omega) (by omega) hs
    simp only [e1]
    obtain ⟨s2, p2, e2, h2⟩ := medAdjI_val d (a + (b - a) / 4 * 2) s1 (by omega) (by omega) hs
    simp only [e2]
    obtain ⟨s3, p3, e3, h3⟩ := medAdjI_val d (a + (b - a) / 4 * 3) s2 (by omega) (by omega) hs
    simp only [e3]
    obtain ⟨s4, p4, e4, h4⟩ := medianI_val d p1 p2 p3 s3 (by omega) (by omega) (by omega)
    simp only [e4]
    cases ieq s4 0
    · cases ieq s4 12
      · exact ⟨p4, _, rfl, by omega, by omega⟩
      · exact ⟨p4, _, rfl, by omega, by omega⟩
    · exact ⟨p4, _, rfl, by omega, by omega⟩
  · rw [decide_eq_false (show ¬ (50 : Int) ≤ ((b - a : Nat) : Int) by omega)]
    simp only []
    obtain ⟨s4, p4, e4, h4⟩ := medianI_val d (a + (b - a) / 4 * 1) (a + (b - a) / 4 * 2) (a + (b - a) / 4 * 3) 0 (by omega) (by omega) (by omega)
    simp only [e4]
    cases ieq s4 0
    · cases ieq s4 12
      · exact ⟨p4, _, rfl, by omega, by omega⟩
      · exact ⟨p4, _, rfl, by omega, by omega⟩
    · exact ⟨p4, _, rfl, by omega, by omega⟩
end Go.Pev.Pl.SI
end
section
namespace Go.Pev.Pl.SI
open Go.Sort
theorem breakI_loop (a b : Nat) (m : Nat) (h8 : a + 8 ≤ b) (hm1 : 1 ≤ m) (hm : m ≤ 2 * (b - a)) : ∀ (k t : Nat) (d : Array Int) (r : Int) (n : Nat), t + k = 3 → b ≤ d.size → d.size < 4294967296 → k < n →
    ∃ d' : Array Int, iterO breakI_s0 n (d.toList, (a : Int), ((b - a : Nat) : Int), r, (m : Int), ((a + (b - a) / 4 * 2 - 1 + t : Nat) : Int), ()) = some (.inl (d'.toList, ())) ∧ PermIn a b d d' := by
  intro k
  induction k with
  | zero =>
    intro t d r n hk hb hs hn
    obtain ⟨n, rfl⟩ : ∃ k, n = k + 1 := ⟨n - 1, by omega⟩
    rw [iterO, breakI_s0]
    simp (disch := omega) only [quo_4, wrap_mul2, wrap_add, wrap_add1, ile_nat]
    rw [decide_eq_false (by omega)]
    exact ⟨d, rfl, permIn_refl d a b⟩
  | succ k ih =>
    intro t d r n hk hb hs hn
    obtain ⟨n, rfl⟩ : ∃ k, n = k + 1 := ⟨n - 1, by omega⟩
    rw [iterO, breakI_s0]
    simp (disch := omega) only [quo_4, wrap_mul2, wrap_add, wrap_add1, ile_nat]
    rw [decide_eq_true (show a + (b - a) / 4 * 2 - 1 + t ≤ a + (b - a) / 4 * 2 + 1 by omega)]
    obtain ⟨r', y, e⟩ := xorNext_val r
    obtain ⟨o, e2, ho⟩ := other_le y m hm1 (by omega)
    simp only [e, e2]
    rw [wrap_in (n := (o : Int)) (by omega)]
    simp only [ile_nat]
    have i0 : a + (b - a) / 4 * 2 - 1 + t < d.size := by omega
    have fin : ∀ q : Nat, a ≤ q → q < b → ∃ d' : Array Int, iterO breakI_s0 n ((swp d (a + (b - a) / 4 * 2 - 1 + t) q).toList, (a : Int), ((b - a : Nat) : Int), r', (m : Int), ((a + (b - a) / 4 * 2 - 1 + t + 1 : Nat) : Int), ()) = some (.inl (d'.toList, ())) ∧ PermIn a b d d' := by
      intro q hq1 hq2
      obtain ⟨d', e', hp⟩ := ih (t + 1) (swp d (a + (b - a) / 4 * 2 - 1 + t) q) r' n (by omega) (by rw [size_swp]; omega) (by rw [size_swp]; omega) (by omega)
      exact ⟨d', e', permIn_trans _ _ _ a b (swp_permIn d a b _ q (by omega) (by omega) hq1 hq2 hb) hp⟩
    by_cases h : b - a ≤ o
    · have i1 : a + (o - (b - a)) < d.size := by omega
      simp (disch := omega) only [h, decide_true, wrap_sub, wrap_add, wrap_add1, idx_at i0, idx_at i1, (swapI i0 i1).1, (swapI i0 i1).2]
      exact fin _ (by omega) (by omega)
    · have i1 : a + o < d.size := by omega
      simp (disch := omega) only [h, decide_false, wrap_sub, wrap_add, wrap_add1, idx_at i0, idx_at i1, (swapI i0 i1).1, (swapI i0 i1).2]
      exact fin _ (by omega) (by omega)
theorem breakI_val (d : Array Int) (a b : Nat) (hab : a ≤ b) (hb : b ≤ d.size) (hs : d.size < 4294967296) :
    ∃ d' : Array Int, breakI (d.toList, (a : Int), (b : Int), ()) = some (d'.toList, ()) ∧ PermIn a b d d' := by
  have hm : 4294967296 < many := by simp only [many]; omega
  rw [breakI_eq, breakI_d]
  simp (disch := omega) only [wrap_sub, ile_eq]
  by_cases h : 8 ≤ b - a
  · rw [decide_eq_true (show (8 : Int) ≤ ((b - a : Nat) : Int) by omega)]
    obtain ⟨m, e, h1, h2⟩ := nextPow_val (b - a) (by omega) (by omega)
    simp only [e]
    rw [u64_in (n := ((b - a : Nat) : Int)) (by omega)]
    simp (disch := omega) only [quo_4, wrap_mul2, wrap_add, wrap_sub1, iterL_eq]
    obtain ⟨d', e2, hp⟩ := breakI_loop a b m (by omega) h1 h2 3 0 d ((b - a : Nat) : Int) many rfl hb hs (by omega)
    rw [Nat.add_zero] at e2
    simp only [e2]
    exact ⟨d', rfl, hp⟩
  · rw [decide_eq_false (show ¬ (8 : Int) ≤ ((b - a : Nat) : Int) by omega)]
    exact ⟨d, rfl, permIn_refl d a b⟩
end Go.Pev.Pl.SI
end
section
namespace Go.Pev.Pl.SI
open Go.Sort
abbrev PdqSt := List Int × Int × Int × Int × Bool × Bool × Unit
abbrev PdqOutT := PdqSt ⊕ (List Int × Unit) ⊕ Unit
noncomputable section
def pdqTail (self : (List Int × Int × Int × Int × Unit) → Option ((List Int × Unit))) (y7 : List Int) (a1 a2 p l : Int) (a4 a5 : Bool) : Option PdqOutT :=
  match (ilt (0 : Int) a1) with
  | true => match idx y7 (IntKind.wrap .i64 (a1 - (1 : Int))) with
    | none => none
    | some x9 => match idx y7 p with
      | none => none
      | some x10 => match lessI ((dget y7 (dnat (IntKind.wrap .i64 (a1 - (1 : Int)))) (0 : Int)), (dget y7 (dnat p) (0 : Int)), ()) with
        | none => none
        | some (y11, _) => match (!y11) with
          | true => match partEqI (y7, a1, a2, p, ()) with
            | none => none
            | some (y12, y13, _) => some (.inl (y12, y13, a2, l, a4, a5, ()))
          | false => match partI (y7, a1, a2, p, ()) with
            | none => none
            | some (y14, y15, y16, _) => match quo? .i64 (IntKind.wrap .i64 (a2 - a1)) (8 : Int) with
              | none => none
              | some x17 => match (ilt (IntKind.wrap .i64 (y15 - a1)) (IntKind.wrap .i64 (a2 - y15))) with
                | true => match self (y14, a1, y15, l, ()) with
                  | none => none
                  | some (y18, _) => some (.inl (y18, (IntKind.wrap .i64 (y15 + (1 : Int))), a2, l, (ile x17 (IntKind.wrap .i64 (y15 - a1))), y16, ()))
                | false => match self (y14, (IntKind.wrap .i64 (y15 + (1 : Int))), a2, l, ()) with
                  | none => none
                  | some (y19, _) => some (.inl (y19, a1, y15, l, (ile x17 (IntKind.wrap .i64 (a2 - y15))), y16, ()))
  | false => match partI (y7, a1, a2, p, ()) with
    | none => none
    | some (y20, y21, y22, _) => match quo? .i64 (IntKind.wrap .i64 (a2 - a1)) (8 : Int) with
      | none => none
      | some x23 => match (ilt (IntKind.wrap .i64 (y21 - a1)) (IntKind.wrap .i64 (a2 - y21))) with
        | true => match self (y20, a1, y21, l, ()) with
          | none => none
          | some (y24, _) => some (.inl (y24, (IntKind.wrap .i64 (y21 + (1 : Int))), a2, l, (ile x23 (IntKind.wrap .i64 (y21 - a1))), y22, ()))
        | false => match self (y20, (IntKind.wrap .i64 (y21 + (1 : Int))), a2, l, ()) with
          | none => none
          | some (y25, _) => some (.inl (y25, a1, y21, l, (ile x23 (IntKind.wrap .i64 (a2 - y21))), y22, ()))
def pdqEnd (self : (List Int × Int × Int × Int × Unit) → Option ((List Int × Unit))) (y6 : List Int) (a1 a2 p h l : Int) (a4 a5 : Bool) : Option PdqOutT :=
  match a4 with
  | true => match a5 with
    | true => match (ieq h (1 : Int)) with
      | true => match partInsI (y6, a1, a2, ()) with
        | none => none
        | some (y7, y8, _) => match y8 with
          | true => some (.inr (.inl (y7, ())))
          | false => pdqTail self y7 a1 a2 p l a4 a5
      | false => pdqTail self y6 a1 a2 p l a4 a5
    | false => pdqTail self y6 a1 a2 p l a4 a5
  | false => pdqTail self y6 a1 a2 p l a4 a5
def pdqMid (self : (List Int × Int × Int × Int × Unit) → Option ((List Int × Unit))) (y2 : List Int) (a1 a2 l : Int) (a4 a5 : Bool) : Option PdqOutT :=
  match pivotI (y2, a1, a2, ()) with
  | none => none
  | some (y3, y4, y5, _) => match (ieq y5 (2 : Int)) with
    | true => match revI (y3, a1, a2, ()) with
      | none => none
      | some (y6, _) => pdqEnd self y6 a1 a2 (IntKind.wrap .i64 ((IntKind.wrap .i64 (a2 - (1 : Int))) - (IntKind.wrap .i64 (y4 - a1)))) 1 l a4 a5
    | false => pdqEnd self y3 a1 a2 y4 y5 l a4 a5
def pdqRound (self : (List Int × Int × Int × Int × Unit) → Option ((List Int × Unit))) : PdqSt → Option PdqOutT := fun (a0, a1, a2, a3, a4, a5, _) =>
  match (ile (IntKind.wrap .i64 (a2 - a1)) (12 : Int)) with
  | true => match insI (a0, a1, a2, ()) with
    | none => none
    | some (y0, _) => some (.inr (.inl (y0, ())))
  | false => match (ieq a3 (0 : Int)) with
    | true => match heapI (a0, a1, a2, ()) with
      | none => none
      | some (y1, _) => some (.inr (.inl (y1, ())))
    | false => match (!a4) with
      | true => match breakI (a0, a1, a2, ()) with
        | none => none
        | some (y2, _) => pdqMid self y2 a1 a2 (IntKind.wrap .i64 (a3 - (1 : Int))) a4 a5
      | false => pdqMid self a0 a1 a2 a3 a4 a5
theorem pdqI_s0_round : pdqI_s0 = pdqRound := rfl
end
def PdqOut (d : Array Int) (a b : Nat) : PdqOutT → Prop
  | .inl (xs, x, y, l, _, _, _) => ∃ (e : Array Int) (i j : Nat), xs = e.toList ∧ x = (i : Int) ∧ y = (j : Int) ∧ 0 ≤ l ∧ l ≤ 100 ∧ i ≤ j ∧ j ≤ e.size ∧ e.size = d.size ∧ j - i < b - a ∧ Below ltInt i j e ∧
      ∀ R, PermIn i j e R → SortedIn ltInt i j R → PermIn a b d R ∧ SortedIn ltInt a b R
  | .inr (.inl (xs, _)) => ∃ R : Array Int, xs = R.toList ∧ PermIn a b d R ∧ SortedIn ltInt a b R
  | .inr (.inr _) => False
def PdqCalls (self : (List Int × Int × Int × Int × Unit) → Option ((List Int × Unit))) (m : Nat) : Prop :=
  ∀ (d : Array Int) (a b : Nat) (l : Int), a ≤ b → b ≤ d.size → d.size < 4294967296 → 0 ≤ l → l ≤ 100 → Below ltInt a b d → 2 * (b - a) < m →
    ∃ R : Array Int, self (d.toList, (a : Int), (b : Int), l, ()) = some (R.toList, ()) ∧ PermIn a b d R ∧ SortedIn ltInt a b R
section
variable {self : (List Int × Int × Int × Int × Unit) → Option ((List Int × Unit))} {d : Array Int} {a b : Nat} {l : Int}
theorem pdq_part (hself : PdqCalls self (b - a)) (hb : b ≤ d.size) (hs : d.size < 4294967296) (hl : 0 ≤ l ∧ l ≤ 100)
    {d3 : Array Int} {p : Nat} (P3 : PermIn a b d d3) (B3 : Below ltInt a b d3) (hp1 : a ≤ p) (hp2 : p < b) :
    ∃ o, (match partI (d3.toList, (a : Int), (b : Int), (p : Int), ()) with
    | none => none
    | some (y20, y21, y22, _) => match quo? .i64 (IntKind.wrap .i64 ((b : Int) - (a : Int))) (8 : Int) with
      | none => none
      | some x23 => match (ilt (IntKind.wrap .i64 (y21 - (a : Int))) (IntKind.wrap .i64 ((b : Int) - y21))) with
        | true => match self (y20, (a : Int), y21, l, ()) with
          | none => none
          | some (y24, _) => some ((.inl (y24, (IntKind.wrap .i64 (y21 + (1 : Int))), (b : Int), l, (ile x23 (IntKind.wrap .i64 (y21 - (a : Int)))), y22, ())) : PdqOutT)
        | false => match self (y20, (IntKind.wrap .i64 (y21 + (1 : Int))), (b : Int), l, ()) with
          | none => none
          | some (y25, _) => some (.inl (y25, (a : Int), y21, l, (ile x23 (IntKind.wrap .i64 ((b : Int) - y21))), y22, ()))) = some o ∧ PdqOut d a b o := by
  have b3 : b ≤ d3.size := by rw [P3.1]; exact hb
  have s3 : d3.size < 4294967296 := by rw [P3.1]; exact hs
  rw [partI_val d3 a b p hp1 hp2 b3 s3]
  rcases hx : partition ltInt d3 a b p with ⟨mid, ap, d4⟩
  obtain ⟨g1, g2, hs4, hBa, hBr, hleft, hright⟩ := round_part swo_ltInt (partition_holds _) hp1 hp2 b3 B3 hx
  simp (disch := omega) only [wrap_sub, wrap_add1, quo_8, ilt_nat]
  have b4 : b ≤ d4.size := by omega
  by_cases h : mid - a < b - mid
  · obtain ⟨L, e, l1, l2⟩ := hself d4 a mid l g1 (by omega) (by omega) hl.1 hl.2 hBa (by omega)
    simp only [h, decide_true, e]
    obtain ⟨hBL, hfin⟩ := hleft _ l1 l2
    refine ⟨_, rfl, L, mid + 1, b, rfl, rfl, rfl, hl.1, hl.2, by omega, by rw [l1.1]; exact b4, by rw [l1.1, hs4, P3.1], by omega, hBL, fun R r1 r2 => ?_⟩
    obtain ⟨q1, q2⟩ := hfin R r1 r2
    exact ⟨permIn_trans _ _ _ a b P3 q1, q2⟩
  · obtain ⟨L, e, l1, l2⟩ := hself d4 (mid + 1) b l (by omega) (by omega) (by omega) hl.1 hl.2 hBr (by omega)
    simp only [h, decide_false, e]
    obtain ⟨hBL, hfin⟩ := hright _ l1 l2
    refine ⟨_, rfl, L, a, mid, rfl, rfl, rfl, hl.1, hl.2, by omega, by rw [l1.1]; omega, by rw [l1.1, hs4, P3.1], by omega, hBL, fun R r1 r2 => ?_⟩
    obtain ⟨q1, q2⟩ := hfin R r1 r2
    exact ⟨permIn_trans _ _ _ a b P3 q1, q2⟩
theorem pdq_tail (hself : PdqCalls self (b - a)) (hb : b ≤ d.size) (hs : d.size < 4294967296) (hl : 0 ≤ l ∧ l ≤ 100)
    {d3 : Array Int} {p : Nat} (wb wp : Bool) (P3 : PermIn a b d d3) (B3 : Below ltInt a b d3) (hp1 : a ≤ p) (hp2 : p < b) :
    ∃ o, pdqTail self d3.toList (a : Int) (b : Int) (p : Int) l wb wp = some o ∧ PdqOut d a b o := by
  have b3 : b ≤ d3.size := by rw [P3.1]; exact hb
  have s3 : d3.size < 4294967296 := by rw [P3.1]; exact hs
  rw [pdqTail, ilt_eq]
  by_cases h0 : 0 < a
  · rw [decide_eq_true (by omega)]
    have i0 : a - 1 < d3.size := by omega
    have i1 : p < d3.size := by omega
    simp (disch := omega) only [wrap_sub1, idx_at, dget_at, lessI_val]
    cases hc : ltInt d3[a - 1]! d3[p]!
    · simp only [Bool.not_false]
      rw [partEqI_val d3 a b p hp1 hp2 b3 s3]
      rcases hx : partitionEqual ltInt d3 a b p with ⟨mid, d4⟩
      obtain ⟨hm1, hm2, hs4, hB4, hfin⟩ := round_eq swo_ltInt (partitionEqual_holds _) h0 hp1 hp2 b3 B3 hc hx
      refine ⟨_, rfl, d4, mid, b, rfl, rfl, rfl, hl.1, hl.2, by omega, by omega, by rw [hs4, P3.1], by omega, hB4, fun R r1 r2 => ?_⟩
      obtain ⟨q1, q2⟩ := hfin R r1 r2
      exact ⟨permIn_trans _ _ _ a b P3 q1, q2⟩
    · simp only [Bool.not_true]
      exact pdq_part hself hb hs hl P3 B3 hp1 hp2
  · rw [decide_eq_false (by omega)]
    exact pdq_part hself hb hs hl P3 B3 hp1 hp2
theorem pdq_end (hself : PdqCalls self (b - a)) (hab : a < b) (hb : b ≤ d.size) (hs : d.size < 4294967296) (hl : 0 ≤ l ∧ l ≤ 100)
    {d3 : Array Int} {p : Nat} (h : Int) (wb wp : Bool) (P3 : PermIn a b d d3) (B3 : Below ltInt a b d3) (hp1 : a ≤ p) (hp2 : p < b) :
    ∃ o, pdqEnd self d3.toList (a : Int) (b : Int) (p : Int) h l wb wp = some o ∧ PdqOut d a b o := by
  have b3 : b ≤ d3.size := by rw [P3.1]; exact hb
  have s3 : d3.size < 4294967296 := by rw [P3.1]; exact hs
  unfold pdqEnd
  cases wb
  · exact pdq_tail hself hb hs hl _ _ P3 B3 hp1 hp2
  · cases wp
    · exact pdq_tail hself hb hs hl _ _ P3 B3 hp1 hp2
    · simp only []
      cases ieq h 1
      · exact pdq_tail hself hb hs hl _ _ P3 B3 hp1 hp2
      · simp only []
        rw [partInsI_val d3 a b hab b3 s3]
        obtain ⟨q1, q2⟩ := partialInsertionSort_holds (lt := ltInt) swo_ltInt d3 a b hab b3 B3
        rcases hx : partialInsertionSort ltInt d3 a b with ⟨d4, fin⟩
        rw [hx] at q1 q2
        have P4 : PermIn a b d d4 := permIn_trans _ _ _ a b P3 q1
        cases fin
        · exact pdq_tail hself hb hs hl _ _ P4 (B3.perm b3 q1) hp1 hp2
        · exact ⟨_, rfl, d4, rfl, P4, q2 rfl⟩
theorem pdq_mid (hself : PdqCalls self (b - a)) (hab : a + 8 ≤ b) (hb : b ≤ d.size) (hs : d.size < 4294967296) (hl : 0 ≤ l ∧ l ≤ 100)
    {d3 : Array Int} (wb wp : Bool) (P3 : PermIn a b d d3) (B3 : Below ltInt a b d3) :
    ∃ o, pdqMid self d3.toList (a : Int) (b : Int) l wb wp = some o ∧ PdqOut d a b o := by
  have b3 : b ≤ d3.size := by rw [P3.1]; exact hb
  have s3 : d3.size < 4294967296 := by rw [P3.1]; exact hs
  rw [pdqMid]
  obtain ⟨p, h, e, hp1, hp2⟩ := pivotI_val d3 a b hab b3 s3
  simp only [e]
  cases ieq h 2
  · exact pdq_end hself (by omega) hb hs hl h _ _ P3 B3 hp1 hp2
  · simp only [revI_val d3 a b (by omega) b3 s3]
    have q1 := reverseRange_holds (α := Int) d3 a b (by omega) b3
    simp (disch := omega) only [wrap_sub1, wrap_sub]
    exact pdq_end hself (by omega) hb hs hl 1 _ _ (permIn_trans _ _ _ a b P3 q1) (B3.perm b3 q1) (by omega) (by omega)
theorem pdq_round (hself : PdqCalls self (b - a)) (hab : a ≤ b) (hb : b ≤ d.size) (hs : d.size < 4294967296) (hl : 0 ≤ l ∧ l ≤ 100) (wb wp : Bool) (B : Below ltInt a b d) :
    ∃ o, pdqI_s0 self (d.toList, (a : Int), (b : Int), l, wb, wp, ()) = some o ∧ PdqOut d a b o := by
  rw [pdqI_s0_round, pdqRound]
  simp (disch := omega) only [wrap_sub, ile_eq, ieq_eq]
  by_cases h12 : b - a ≤ 12
  · rw [decide_eq_true (show ((b - a : Nat) : Int) ≤ 12 by omega)]
    simp only [insI_val d a b hab hb hs]
    obtain ⟨q1, q2⟩ := insertionSort_holds (lt := ltInt) swo_ltInt d a b hab hb
    exact ⟨_, rfl, _, rfl, q1, q2⟩
  · rw [decide_eq_false (show ¬ ((b - a : Nat) : Int) ≤ 12 by omega)]
    simp only []
    by_cases h0 : l = 0
    · subst h0
      simp only [BEq.rfl, heapI_val d a b (by omega) hb hs]
      obtain ⟨q1, q2⟩ := heapSort_holds (lt := ltInt) swo_ltInt d a b hab hb
      exact ⟨_, rfl, _, rfl, q1, q2⟩
    · rw [show (l == 0) = false by simpa using h0]
      simp only []
      cases wb
      · obtain ⟨d', e, q1⟩ := breakI_val d a b hab hb hs
        simp only [Bool.not_false, e]
        rw [wrap_in (by omega)]
        exact pdq_mid hself (by omega) hb hs (by omega) _ _ q1 (B.perm hb q1)
      · simp only [Bool.not_true]
        exact pdq_mid hself (by omega) hb hs hl _ _ (permIn_refl d a b) B
end
theorem pdq_loop {self : (List Int × Int × Int × Int × Unit) → Option ((List Int × Unit))} {m : Nat} (hself : PdqCalls self m) : ∀ (k : Nat) (d : Array Int) (a b : Nat) (l : Int) (wb wp : Bool) (n : Nat), b - a = k → k ≤ m → a ≤ b → b ≤ d.size → d.size < 4294967296 → 0 ≤ l → l ≤ 100 → Below ltInt a b d → k < n →
    ∃ R : Array Int, iterO (pdqI_s0 self) n (d.toList, (a : Int), (b : Int), l, wb, wp, ()) = some (.inl (R.toList, ())) ∧ PermIn a b d R ∧ SortedIn ltInt a b R := by
  intro k
  induction k using Nat.strongRecOn with
  | _ k ih =>
  intro d a b l wb wp n hk hm hab hb hs hl1 hl2 B hn
  obtain ⟨n, rfl⟩ : ∃ k, n = k + 1 := ⟨n - 1, by omega⟩
  have hself' : PdqCalls self (b - a) := fun d a' b' l h1 h2 h3 h4 h5 h6 h7 => hself d a' b' l h1 h2 h3 h4 h5 h6 (by omega)
  obtain ⟨o, e, ho⟩ := pdq_round hself' hab hb hs ⟨hl1, hl2⟩ wb wp B
  rw [iterO, e]
  match o, ho with
  | .inl (xs, x, y, l', wb', wp', _), ho =>
    obtain ⟨e', i, j, rfl, rfl, rfl, g1, g2, g3, g4, g5, g6, g7, hfin⟩ := ho
    obtain ⟨R, e2, r1, r2⟩ := ih (j - i) (by omega) e' i j l' wb' wp' n rfl (by omega) g3 g4 (by omega) g1 g2 g7 (by omega)
    exact ⟨R, e2, hfin R r1 r2⟩
  | .inr (.inl (xs, _)), ho =>
    obtain ⟨R, rfl, r1, r2⟩ := ho
    exact ⟨R, rfl, r1, r2⟩
theorem pdq_calls : ∀ k : Nat, PdqCalls (pdqI_f (k + 1)) (2 ^ k) := by
  intro k
  have hmany : 4294967296 < many := by simp only [many]; omega
  induction k with
  | zero =>
    intro d a b l h1 h2 h3 h4 h5 h6 h7
    have : PdqCalls (pdqI_f 0) 0 := fun _ _ _ _ _ _ _ _ _ _ h => by omega
    obtain ⟨R, e, r1, r2⟩ := pdq_loop this (b - a) d a b l true true many rfl (by omega) h1 h2 h3 h4 h5 h6 (by omega)
    refine ⟨R, ?_, r1, r2⟩
    rw [pdqI_f, pdqI_d]
    simp only [iterL_eq, e]
  | succ k ih =>
    intro d a b l h1 h2 h3 h4 h5 h6 h7
    have hp : 2 ^ (k + 1) = 2 * 2 ^ k := by rw [Nat.pow_succ]; omega
    obtain ⟨R, e, r1, r2⟩ := pdq_loop ih (b - a) d a b l true true many rfl (by omega) h1 h2 h3 h4 h5 h6 (by omega)
    refine ⟨R, ?_, r1, r2⟩
    rw [pdqI_f, pdqI_d]
    simp only [iterL_eq, e]
def sorted (xs : List Int) : List Int := xs.mergeSort (fun x y => decide (x ≤ y))
theorem sorted_eq {d d' : Array Int} (h1 : PermIn 0 d.size d d') (h2 : SortedIn ltInt 0 d.size d') : d'.toList = sorted d.toList := by
  have h := sorted_unique_holds (lt := ltInt) swo_ltInt (fun x y h1 h2 => by simp [ltInt] at h1 h2; omega) d d' h1 h2
  rw [h, sorted]
  congr
  funext x y
  by_cases h : x ≤ y
  · simp [ltInt, h, Int.not_lt.2 h]
  · simp [ltInt, h, Int.not_le.1 h]
theorem sortI_val (xs : List Int) (h : xs.length < 4294967296) : sortI (xs, ()) = some (sorted xs, ()) := by
  obtain ⟨d, rfl⟩ : ∃ d : Array Int, xs = d.toList := ⟨xs.toArray, rfl⟩
  rw [Array.length_toList] at h
  rw [sortI_eq, sortI_d]
  rw [dlen_at, u64_in (by omega)]
  obtain ⟨v, e, hv, _⟩ := bitsLen_val d.size h
  simp only [e]
  obtain ⟨R, e2, r1, r2⟩ := pdq_calls 99 d 0 d.size (v : Int) (by omega) (by omega) h (by omega) (by omega) (.inl rfl) (by
    have : 2 ^ 99 = 633825300114114700748351602688 := by decide
    omega)
  have e3 : pdqI (d.toList, (0 : Int), (d.size : Int), (v : Int), ()) = some (R.toList, ()) := by rw [pdqI_eq]; exact e2
  simp only [e3, sorted_eq r1 r2]
end Go.Pev.Pl.SI
end
section
namespace Go.Pev.Pl
open Tok
theorem getD_drop_eq {a o : List Int} {m k : Nat} (h : a.drop m = o.drop m) (hk : m ≤ k) : a.getD k 0 = o.getD k 0 := by
  have := congrArg (fun l => l.getD (k - m) 0) h
  simp only [List.getD_eq_getElem?_getD, List.getElem?_drop] at this
  rw [Nat.add_sub_cancel' hk] at this
  simpa [List.getD_eq_getElem?_getD] using this
theorem take_succ_getD {xs : List Int} {i : Nat} (h : i < xs.length) : xs.take (i + 1) = xs.take i ++ [xs.getD i 0] := by
  rw [List.take_succ_eq_append_getElem h]; simp [h]
theorem del_loop (o : List Int) (n : Int) (rings : List (List Int)) (hs : o.length < 4294967296) : ∀ (k j w : Nat) (a : List Int) (cnt : Nat), j + k = o.length → a.length = o.length → w = (lows n (o.take j)).length → a.take w = lows n (o.take j) → w < j → a.drop j = o.drop j → k < cnt →
    ∃ a' : List Int, iterO delFuncI_mem_s0 cnt (a, n, rings, (w : Int), (j : Int), ()) = some (.inl (a', n, rings, (((lows n o).length : Nat) : Int), ())) ∧ a'.length = o.length ∧ a'.take (lows n o).length = lows n o := by
  intro k
  induction k with
  | zero =>
    intro j w a cnt hk hl hw hq hwj hd hn
    obtain ⟨cnt, rfl⟩ : ∃ k, cnt = k + 1 := ⟨cnt - 1, by omega⟩
    have e : j = o.length := by omega
    subst e
    rw [List.take_length] at hw hq
    rw [iterO, delFuncI_mem_s0, dlen_l, ilt_nat, decide_eq_false (by omega)]
    exact ⟨a, by rw [hw], hl, by rw [← hw]; exact hq⟩
  | succ k ih =>
    intro j w a cnt hk hl hw hq hwj hd hn
    obtain ⟨cnt, rfl⟩ : ∃ k, cnt = k + 1 := ⟨cnt - 1, by omega⟩
    have g1 : a.getD j 0 = o.getD j 0 := getD_drop_eq hd (Nat.le_refl _)
    have hdd : a.drop (j + 1) = o.drop (j + 1) := by
      have := congrArg (List.drop 1) hd
      simpa only [List.drop_drop] using this
    have hst : lows n (o.take (j + 1)) = lows n (o.take j) ++ if n ≤ o.getD j 0 then [] else [o.getD j 0] := by
      rw [take_succ_getD (by omega), lows, List.filter_append]
      generalize o.getD j 0 = v
      by_cases h : n ≤ v <;> simp [lows, h]
    rw [iterO, delFuncI_mem_s0, dlen_l, ilt_nat, decide_eq_true (by omega)]
    simp (disch := omega) only [idx_l (0 : Int), dget_l, dset_l, g1, ile_eq, wrap_add1]
    by_cases h : n ≤ o.getD j 0
    · rw [decide_eq_true h]
      rw [if_pos h, List.append_nil] at hst
      exact ih (j + 1) w a cnt (by omega) hl (by rw [hst]; exact hw) (by rw [hst]; exact hq) (by omega) hdd (by omega)
    · rw [decide_eq_false h]
      rw [if_neg h] at hst
      refine ih (j + 1) (w + 1) (a.set w (o.getD j 0)) cnt (by omega) (by simp [hl]) (by rw [hst]; simp [hw]) ?_ (by omega) ?_ (by omega)
      · rw [hst, ← hq, List.take_succ_eq_append_getElem (by simp; omega)]
        simp [List.take_set_of_le]
      · rw [List.drop_set_of_lt (by omega)]
        exact hdd
theorem lows_none {n : Int} {o : List Int} (h : ∀ j, j < o.length → decide (n ≤ o.getD j 0) = false) : lows n o = o := by
  rw [lows, List.filter_eq_self]
  intro x hx
  obtain ⟨j, hj, e⟩ := List.getElem_of_mem hx
  have := h j hj
  simp only [List.getD_eq_getElem?_getD, List.getElem?_eq_getElem hj, Option.getD_some, e] at this
  simp only [this, Bool.not_false]
theorem del_val (o : List Int) (n : Int) (rings : List (List Int)) (hs : o.length < 4294967296) :
    ∃ a : List Int, delFuncI_mem (o, n, rings, ()) = some (a, n, rings, (((lows n o).length : Nat) : Int), ()) ∧ a.take (lows n o).length = lows n o := by
  have hm : 4294967296 < many := by simp only [many]; omega
  rw [delFuncI_mem_eq, delFuncI_mem_d, idxFuncI_mem_eq, idxFuncI_mem_d]
  simp only [dlen_l]
  rcases scanL (step := idxFuncI_mem_s0) (fun i => (o, n, rings, (o.length : Int), (i : Int), ())) o.length (fun i => decide (n ≤ o.getD i 0)) (fun i => .inl (o, n, rings, (i : Int), ())) (.inr (.inl (o, n, rings, ()))) (by omega)
      (fun i hi => by
        rw [idxFuncI_mem_s0]
        simp (disch := omega) only [ilt_nat, hi, decide_true, idx_l (0 : Int), dget_l, ile_eq, wrap_add1]
        cases decide (n ≤ o.getD i 0) <;> rfl) (by rw [idxFuncI_mem_s0]; simp only [ilt_nat, Nat.lt_irrefl, decide_false]) with ⟨k, hk, hP, hF, e⟩ | ⟨hP, e⟩
  · have e' : iterL idxFuncI_mem_s0 many (o, n, rings, (o.length : Int), (0 : Int), ()) = _ := e
    have h0 : lows n (o.take k) = o.take k := lows_none fun j hj => by
      rw [List.length_take] at hj
      have := hF j (by omega)
      rw [show (o.take k).getD j 0 = o.getD j 0 by simp [List.getD_eq_getElem?_getD, List.getElem?_take_of_lt (show j < k by omega)]]
      exact this
    have h1 : lows n (o.take (k + 1)) = o.take k := by
      rw [take_succ_getD hk, lows, List.filter_append]
      have : (List.filter (fun t => !decide (n ≤ t)) [o.getD k 0]) = [] := by
        generalize o.getD k 0 = v at *
        simp at hP
        simp [hP]
      rw [this, List.append_nil]
      exact h0
    obtain ⟨a', e2, e3, e4⟩ := del_loop o n rings hs (o.length - (k + 1)) (k + 1) k o many (by omega) rfl (by rw [h1, List.length_take]; omega) (by rw [h1]) (by omega) rfl (by omega)
    have hle : (lows n o).length ≤ o.length := List.length_filter_le _ _
    have hcl : (dclear (lows n o).length (a'.length - (lows n o).length) 0 a').length = a'.length := by
      simp [dclear]; omega
    have s0 : subl (dclear (lows n o).length (a'.length - (lows n o).length) 0 a') (0 : Int) (((lows n o).length : Nat) : Int) = some _ := subl_l (l := 0) (by omega) (by omega)
    simp only [e', ieq_eq]
    rw [show ((k : Int) == -1) = false from beq_false_of_ne (by omega), wrap_add1 (by omega)]
    simp only [iterL_eq, e2]
    rw [subl_l (by omega) (by omega)]
    simp only [List.take_length, List.length_drop, dnat_l, s0]
    refine ⟨dclear (lows n o).length (a'.length - (lows n o).length) 0 a', ?_, ?_⟩
    · simp only [List.length_take, Nat.sub_zero]
      rw [Nat.min_eq_left (by omega)]
    · rw [dclear, List.take_append_of_le_length (by simp; omega), List.take_take, Nat.min_self]
      exact e4
  · have e' : iterL idxFuncI_mem_s0 many (o, n, rings, (o.length : Int), (0 : Int), ()) = _ := e
    have h0 := lows_none hP
    simp only [e', ieq_eq]
    exact ⟨o, by rw [h0]; rfl, by rw [h0, List.take_length]⟩
theorem sorted_lows {n : Int} {A : List Int} (h : RG n A) : SI.sorted (lows n A) = verts n A := by
  have hp : (SI.sorted (lows n A)).Perm (lows n A) := List.mergeSort_perm _ _
  have hpv := lows_perm h
  have hs : (SI.sorted (lows n A)).Pairwise (· ≤ ·) := by
    have := List.pairwise_mergeSort (le := fun x y : Int => decide (x ≤ y)) (fun a b c h1 h2 => by simp at *; omega) (fun a b => by simp; omega) (lows n A)
    exact this.imp fun h => by simpa using h
  exact List.Perm.eq_of_pairwise (le := fun a b : Int => a ≤ b) (fun a b _ _ h1 h2 => by omega) hs ((verts_up n A).imp fun h => by omega) (hp.trans hpv)
theorem fmembers_val {n : Int} {rings : List (List Int)} {i : Nat} {A : List Int} {v : Int} (h : FR n rings) (iv : In n v) (hi : rings[i]? = some A) (hv : v ∈ A) : fmembers ((n, (rings, ())), v, ()) = some (verts n A, 0, ()) := by
  have hD := h.dom
  have hRF := RF_iff.2 h
  have gA := h.rg A (List.mem_of_getElem? hi)
  have hl := gA.1.1
  rw [fmembers_eq, fmembers_d]
  have ht : fthere ((n, (rings, ())), [v], ()) = some (0, ()) := by
    rw [fthere_val n rings _ hD (by simp), askE]
    simp [hRF, iv]
  obtain ⟨a, e1, e2⟩ := del_val A n rings (by omega)
  simp only [ht, ieq_self, Bool.not_true, tof_val n rings v hD, hRF, iv, and_self, if_true, h.plc_eq hi iv.2.2.2 hv, idx_some hi, cloneF_val (show A.length ≤ 4294967296 by omega), e1, dtake, dnat_l, e2]
  have hle : (lows n A).length ≤ A.length := List.length_filter_le _ _
  rw [SI.sortI_val _ (by omega), sorted_lows gA]
end Go.Pev.Pl
end
section
namespace Go.Pev.Pl
open Go.RowKit Tok
theorem alive19_true : alive19 () = some (true, ()) := by
  rw [show alive19 () = @alive19 idI () from congrArg (fun i => @alive19 i ()) lockI_eq]
  kernel_rfl
end Go.Pev.Pl
end
section
namespace Go.Pev.Pl
open Go.RowKit Tok
theorem u8_mod {x : Int} (h : 0 ≤ x ∧ x ≤ 255) {N : Nat} (hN : 1 ≤ N) (hN2 : N ≤ 64) : ∃ q : Nat, rem? (IntKind.wrap .i64 x) (N : Int) = some (q : Int) ∧ q < N := by
  obtain ⟨a, rfl⟩ := Int.eq_ofNat_of_zero_le h.1
  exact ⟨a % N, by rw [wrap_in (by omega)]; exact rem_nat (by omega), Nat.mod_lt _ (by omega)⟩
theorem cl_at {N : Nat} {l : List Edge} {out : List Int} (hc : ClOK (N : Int) l out) {k : Nat} (hk : k < N) : k < out.length ∧ out.getD k 0 = cl out (k : Int) := by
  have := hc.len
  exact ⟨by omega, by simp [cl]⟩
theorem sets_members (N : Nat) (hN : N ≤ 64) (rings : List (List Int)) (u : Nat) (hu : u < N) (l : List Edge) (out : List Int) (hc : ClOK (N : Int) l out) (s : Int) (ms : List Int) (hm : ∀ m ∈ ms, In (N : Int) m ∧ cl out m = cl out (u : Int)) (hup : ms.Pairwise (· < ·)) (hl : ms.length ≤ 1000) :
    iterL forestSets_s0 many ((N : Int), (N : Int), rings, (u : Int), out, s, ms, (0 : Int), ()) = some (.inr (.inl ((N : Int), (N : Int), rings, (u : Int), out, s, ()))) := by
  obtain ⟨ul, ue⟩ := cl_at hc hu
  have e := scanL (step := forestSets_s0) (fun i => ((N : Int), (N : Int), rings, (u : Int), out, s, ms, (i : Int), ())) ms.length (fun _ => false) (fun _ => .inl (false, ())) (.inr (.inl ((N : Int), (N : Int), rings, (u : Int), out, s, ()))) (by omega)
    (fun i hi => by
      have hmem : ms.getD i 0 ∈ ms := by rw [List.getD_eq_getElem?_getD, List.getElem?_eq_getElem hi, Option.getD_some]; exact List.getElem_mem hi
      obtain ⟨im, hcm⟩ := hm _ hmem
      rw [forestSets_s0, dlen_l, ilt_nat, decide_eq_true hi]
      simp only [idx_l (0 : Int) hi, dget_l]
      have him := im.2.2
      have hprev : ∀ j, j + 1 = i → ms.getD j 0 < ms.getD i 0 := by
        intro j hj
        have := List.pairwise_iff_getElem.1 hup j i (by omega) hi (by omega)
        rw [List.getD_eq_getElem?_getD, List.getElem?_eq_getElem (show j < ms.length by omega), List.getD_eq_getElem?_getD, List.getElem?_eq_getElem hi]
        exact this
      generalize ms.getD i 0 = m at *
      obtain ⟨k, rfl⟩ := Int.eq_ofNat_of_zero_le him.1
      have hk : k < N := by omega
      obtain ⟨kl, ke⟩ := cl_at hc hk
      rw [ilt_eq, decide_eq_false (by omega)]
      simp only []
      rw [ile_eq, decide_eq_false (by omega)]
      simp only [idx_l (0 : Int) kl, idx_l (0 : Int) ul, dget_l, ke, ue, hcm, ieq_self, Bool.not_true]
      rw [wrap_add1 (by omega), ilt_eq]
      by_cases h0 : 0 < i
      · have hj : i - 1 < ms.length := by omega
        rw [decide_eq_true (by omega), wrap_sub1 (by omega)]
        simp only [idx_l (0 : Int) hj, dget_l]
        have := hprev (i - 1) (by omega)
        rw [ile_eq, decide_eq_false (by omega)]
        simp
      · rw [decide_eq_false (by omega)]
        simp)
    (by rw [forestSets_s0, dlen_l, ilt_nat, decide_eq_false (by omega)])
  rcases e with ⟨_, _, h, _⟩ | ⟨_, e⟩
  · cases h
  · exact e
theorem sets_times (N : Nat) (hN : N ≤ 64) (rings : List (List Int)) (u : Nat) (hu : u < N) (l : List Edge) (out : List Int) (hc : ClOK (N : Int) l out) (s : Int) :
    iterL forestSets_s1 many ((N : Int), (N : Int), rings, (u : Int), out, s, (0 : Int), (0 : Int), ()) = some (.inl ((N : Int), (N : Int), rings, s, ((((List.range N).filter fun (k : Nat) => decide (cl out (k : Int) = cl out (u : Int))).length : Nat) : Int), ())) := by
  obtain ⟨ul, ue⟩ := cl_at hc hu
  have key : ∀ (m k cnt : Nat), k + m = N → m < cnt → iterO forestSets_s1 cnt ((N : Int), (N : Int), rings, (u : Int), out, s, ((((List.range k).filter fun (k : Nat) => decide (cl out (k : Int) = cl out (u : Int))).length : Nat) : Int), (k : Int), ()) = some (.inl ((N : Int), (N : Int), rings, s, ((((List.range N).filter fun (k : Nat) => decide (cl out (k : Int) = cl out (u : Int))).length : Nat) : Int), ())) := by
    intro m
    induction m with
    | zero =>
      intro k cnt hk hc2
      obtain ⟨cnt, rfl⟩ : ∃ c, cnt = c + 1 := ⟨cnt - 1, by omega⟩
      have : k = N := by omega
      subst this
      rw [iterO, forestSets_s1, ilt_nat, decide_eq_false (by omega)]
    | succ m ih =>
      intro k cnt hk hc2
      obtain ⟨cnt, rfl⟩ : ∃ c, cnt = c + 1 := ⟨cnt - 1, by omega⟩
      have hih := ih (k + 1) cnt (by omega) (by omega)
      rw [List.range_succ, List.filter_append, List.length_append] at hih
      obtain ⟨kl, ke⟩ := cl_at hc (show k < N by omega)
      have hfl : ((List.range k).filter fun (k : Nat) => decide (cl out (k : Int) = cl out (u : Int))).length ≤ k := by
        have := List.length_filter_le (fun (k : Nat) => decide (cl out (k : Int) = cl out (u : Int))) (List.range k)
        simpa using this
      rw [iterO, forestSets_s1, ilt_nat, decide_eq_true (by omega)]
      simp only [idx_l (0 : Int) kl, idx_l (0 : Int) ul, dget_l, ke, ue, ieq_dec]
      rw [wrap_add1 (show k + 1 < 9223372036854775808 by omega), wrap_add1 (by omega)]
      by_cases h : cl out (k : Int) = cl out (u : Int)
      · rw [decide_eq_true h]
        have : ([k].filter fun (k : Nat) => decide (cl out (k : Int) = cl out (u : Int))).length = 1 := by simp [h]
        rw [this] at hih
        exact hih
      · rw [decide_eq_false h]
        have : ([k].filter fun (k : Nat) => decide (cl out (k : Int) = cl out (u : Int))).length = 0 := by simp [h]
        rw [this, Nat.add_zero] at hih
        exact hih
  have hmany : 4294967296 < many := by simp only [many]; omega
  rw [iterL_eq]
  exact key N 0 many (by omega) (by omega)
theorem forestSets_true (n : Int) (l : List Edge) (two : List Int) (h0 : wfD (.int .u8) n) (h1 : wfD (.slice (.prod (.int .i64) (.prod (.int .i64) .unit))) l) (h2 : wfD (.arr 2 (.int .u8)) two) : forestSets (n, l, two, ()) = some (true, ()) := by
  have hn : 0 ≤ n ∧ n ≤ 255 := h0
  obtain ⟨a, rfl⟩ := Int.eq_ofNat_of_zero_le hn.1
  have htwo : ∀ k, 0 ≤ dget two k (0 : Int) ∧ dget two k (0 : Int) ≤ 255 := by
    intro k
    rw [dget, List.getD_eq_getElem?_getD]
    cases hg : two[k]? with
    | none => simp
    | some y => exact h2.2 y (List.mem_of_getElem? hg)
  rw [forestSets_eq, forestSets_d]
  simp only [alive19_true, Bool.not_true]
  rw [wrap_in (n := (a : Int)) (by omega), show (10 : Int) = ((10 : Nat) : Int) from rfl, rem_nat (by omega)]
  simp only [dlen_l, ilt_eq]
  by_cases hl : 25 < l.length
  · rw [decide_eq_true (by omega)]
  · rw [decide_eq_false (by omega)]
    simp only []
    have hk : IntKind.wrap .i64 ((1 : Int) + ((a % 10 : Nat) : Int)) = ((1 + a % 10 : Nat) : Int) := by rw [wrap_in (by omega)]; omega
    rw [hk]
    have hN1 : 1 ≤ 1 + a % 10 := by omega
    have hN2 : 1 + a % 10 ≤ 64 := by omega
    generalize 1 + a % 10 = N at *
    have hS : Sz (N : Int) := ⟨by omega, by omega⟩
    rcases fof_val (N : Int) l hS (by omega) with ⟨ha, rings, e, h⟩ | ⟨ha, e⟩
    · have hF := h.fr
      obtain ⟨u, eu, hu⟩ := u8_mod (htwo 0) hN1 hN2
      obtain ⟨v, ev, hv⟩ := u8_mod (htwo 1) hN1 hN2
      obtain ⟨out, ec, hc⟩ := classes19_val (N : Int) l hS (by omega) ha
      have iu : In (N : Int) (u : Int) := ⟨by omega, by omega, by omega, by omega⟩
      have iv : In (N : Int) (v : Int) := ⟨by omega, by omega, by omega, by omega⟩
      obtain ⟨i, A, pu, hi, hua, _⟩ := plc_in (hF.cov _ iu)
      obtain ⟨j, B, pv, hj, hvb, _⟩ := plc_in (hF.cov _ iv)
      have mA := List.mem_of_getElem? hi
      have mB := List.mem_of_getElem? hj
      have gA := hF.rg A mA
      have hlA := gA.1.1
      obtain ⟨ul, ue⟩ := cl_at hc hu
      obtain ⟨vl, ve⟩ := cl_at hc hv
      have cA := hd_class h hc mA iu hua
      have cB := hd_class h hc mB iv hvb
      have hsame : decide (plc rings (u : Int) = plc rings (v : Int)) = decide (cl out (u : Int) = cl out (v : Int)) := by
        apply decide_eq_decide.2
        rw [hF.same_plc iu iv, h.sam _ _ iu iv, hc.same _ _ iu iv]
      have hvl := lows_len gA
      have hms : ∀ m ∈ verts (N : Int) A, In (N : Int) m ∧ cl out m = cl out (u : Int) := fun m hm => by
        obtain ⟨m1, m2, m3⟩ := (verts_mem m).1 hm
        have im : In (N : Int) m := ⟨by omega, by omega, m1, m2⟩
        exact ⟨im, (mem_class h hc mA iu hua im).1 m3⟩
      have htimes : ((List.range N).filter fun (k : Nat) => decide (cl out (k : Int) = cl out (u : Int))).length = (verts (N : Int) A).length := by
        rw [verts, Int.toNat_natCast, List.filter_map, List.length_map]
        congr 1
        apply List.filter_congr
        intro k hk
        rw [List.mem_range] at hk
        apply decide_eq_decide.2
        exact (mem_class h hc mA iu hua ⟨by omega, by omega, by omega, by omega⟩).symm
      obtain ⟨ys, y1, y2, _⟩ := fedges_val hF
      have hcnt := edges_count hF
      have hyl := y2.length_eq
      have l0 := sets_members N hN2 rings u hu l out hc ((verts (N : Int) A).length : Int) (verts (N : Int) A) hms (verts_up _ _) (by omega)
      have l1 := sets_times N hN2 rings u hu l out hc ((verts (N : Int) A).length : Int)
      rw [htimes] at l1
      simp only [e, ieq_self, Bool.not_true, eu, ev, ec, fconn_val hF iu iv, fleast_val hF iu hi hua, fleast_val hF iv hj hvb, fsize_val hF iu hi hua, fmembers_val hF iu hi hua, idx_l (0 : Int) ul, idx_l (0 : Int) vl, dget_l, ue, ve, cA, cB, hsame, ieq_dec, BEq.rfl, dlen_l, l0, l1, y1, decide_true]
      rw [wrap_sub (by omega)]
      rw [decide_eq_true (show (ys.length : Int) = ((N - rings.length : Nat) : Int) by omega)]
    · simp only [e, ieq_dec]
      rfl
end Go.Pev.Pl
end
