/- A part of the proofs of this seat: KE KF KG KH U24a U24b U24c U24d G24aP1 G24aP2 G24aP3 G24aP4 G24aP5 G24aP6 G24aP7 G24aP8 G24aP9 G24aP. -/
import Derived.Test.YtaamkoofmojajaaGreatP50b4d1f823
import Derived.KernelRfl
import Derived.Test.YtaamkoofmojajaaGreatProg
set_option linter.unusedVariables false
set_option linter.unusedSimpArgs false
set_option linter.unusedSectionVars false
section
section
namespace Go.Pev.Pl
set_option linter.unusedSimpArgs false
structure UF (N : Nat) (s : List Int) (c : Int → Int) : Prop where
 len : s.length = N
 lo : ∀ k, k < N → 0 ≤ s.getD k 0 ∧ s.getD k 0 ≤ (k : Int)
 par : ∀ k, k < N → c (s.getD k 0) = c (k : Int)
 root : ∀ k, k < N → s.getD k 0 = (k : Int) → c (k : Int) = (k : Int)
 le : ∀ k, k < N → 0 ≤ c (k : Int) ∧ c (k : Int) ≤ (k : Int)
theorem set_getD {s : List Int} {k : Nat} (x : Int) (h : k < s.length) (j : Nat) : (s.set k x).getD j 0 = if j = k then x else s.getD j 0 := by
 simp only [List.getD_eq_getElem?_getD]
 by_cases hj : j = k
 ·subst hj
  rw [List.getElem?_set_self h, if_pos rfl]; rfl
 ·rw [List.getElem?_set_ne (Ne.symm hj), if_neg hj]
theorem UF.idem {N : Nat} {s : List Int} {c : Int → Int} (h : UF N s c) : ∀ (m k : Nat), k ≤ m → k < N → c (c (k : Int)) = c (k : Int) := by
 intro m
 induction m with
 | zero =>
  intro k hk hN
  have := h.le k hN
  have e : c (k : Int) = (k : Int) := by omega
  rw [e, e]
 | succ m ih =>
  intro k hk hN
  have h1 := h.lo k hN
  by_cases hr : s.getD k 0 = (k : Int)
  ·have e := h.root k hN hr
   rw [e, e]
  ·obtain ⟨j, hj⟩ := Int.eq_ofNat_of_zero_le h1.1
   have hp := h.par k hN
   rw [hj] at hp
   rw [← hp]
   exact ih j (by omega) (by omega)
theorem UF.top {N : Nat} {s : List Int} {c : Int → Int} (h : UF N s c) {k : Nat} (hk : k < N) : s.getD (c (k : Int)).toNat 0 = c (k : Int) := by
 have h1 := h.le k hk
 obtain ⟨j, hj⟩ := Int.eq_ofNat_of_zero_le h1.1
 have hi := h.idem k k (Nat.le_refl _) hk
 rw [hj] at hi ⊢
 have hjN : j < N := by omega
 have h2 := h.lo j hjN
 have hp := h.par j hjN
 obtain ⟨i, hi'⟩ := Int.eq_ofNat_of_zero_le h2.1
 rw [hi'] at hp
 have h3 := h.le i (by omega)
 show s.getD j 0 = _
 omega
theorem sleast_val {N : Nat} {c : Int → Int} (hN : N ≤ 64) : ∀ {s : List Int} (_ : UF N s c) {v : Nat} (_ : v < N), ∃ s', sleast (s, (v : Int), ()) = some (s', c (v : Int), ()) ∧ UF N s' c ∧ ∀ j, j < N → s.getD j 0 = c (j : Int) → s'.getD j 0 = c (j : Int) := by
 intro s hs v hv
 rw [sleast_eq, sleast_d]
 obtain ⟨r, e, h⟩ := iterL_rule (step := sleast_s0)
  (fun st => ∃ (s' : List Int) (w : Nat), st = (s', (w : Int), ()) ∧ w < N ∧ UF N s' c ∧ c (w : Int) = c (v : Int) ∧ ∀ j, j < N → s.getD j 0 = c (j : Int) → s'.getD j 0 = c (j : Int))
  (fun r => ∃ s', r = .inl (s', c (v : Int), ()) ∧ UF N s' c ∧ ∀ j, j < N → s.getD j 0 = c (j : Int) → s'.getD j 0 = c (j : Int)) (fun st => st.2.1.toNat)
  (fun st hst => by
   obtain ⟨s', w, rfl, hw, hu, hc, hk⟩ := hst
   have hl := hu.len
   have h1 := hu.lo w hw
   rw [sleast_s0]
   simp only [idx_l 0 (show w < s'.length by omega), dget_l, ieq_dec]
   by_cases hr : s'.getD w 0 = (w : Int)
   ·right
    rw [decide_eq_true hr]
    refine ⟨_, rfl, s', ?_, hu, hk⟩
    rw [← hc, hu.root w hw hr]
   ·left
    rw [decide_eq_false hr]
    obtain ⟨p, hp⟩ := Int.eq_ofNat_of_zero_le h1.1
    have hpN : p < N := by omega
    have h2 := hu.lo p hpN
    obtain ⟨q, hq⟩ := Int.eq_ofNat_of_zero_le h2.1
    have hqN : q < N := by omega
    simp only [Bool.not_false, hp, idx_l 0 (show p < s'.length by omega), dget_l, dset_l, hq]
    have hlen : (s'.set w (q : Int)).length = N := by rw [List.length_set]; exact hl
    have hset := fun j => set_getD (q : Int) (show w < s'.length by omega) j
    simp only [idx_l 0 (show w < (s'.set w (q : Int)).length by omega), hset, if_true]
    refine ⟨_, rfl, ⟨_, q, rfl, hqN, ?_, ?_, ?_⟩, ?_⟩
    ·refine ⟨hlen, fun k hk => ?_, fun k hk => ?_, fun k hk hkk => ?_, hu.le⟩
     ·rw [hset]
      by_cases e : k = w
      ·rw [if_pos e]; omega
      ·rw [if_neg e]; exact hu.lo k hk
     ·rw [hset]
      by_cases e : k = w
      ·subst e
       rw [if_pos rfl, ← hq, hu.par p hpN, ← hp, hu.par k hw]
      ·rw [if_neg e]; exact hu.par k hk
     ·rw [hset] at hkk
      by_cases e : k = w
      ·subst e; rw [if_pos rfl] at hkk; omega
      ·rw [if_neg e] at hkk; exact hu.root k hk hkk
    ·rw [← hc, ← hq, hu.par p hpN, ← hp, hu.par w hw]
    ·intro j hj hjc
     rw [hset]
     by_cases e : j = w
     ·subst e
      rw [if_pos rfl]
      have := hk j hj hjc
      have ht := hu.top hj
      rw [← this, hp, Int.toNat_natCast] at ht
      rw [← hq, ht, ← hp, this]
     ·rw [if_neg e]; exact hk j hj hjc
    ·show (q : Int).toNat < (w : Int).toNat
     omega)
  (s, (v : Int), ()) ⟨s, v, rfl, hv, hs, rfl, fun _ _ h => h⟩ (by simp only [many]; omega)
 obtain ⟨s', rfl, h2, h3⟩ := h
 rw [e]
 exact ⟨s', rfl, h2, h3⟩
theorem imin_eq (a b : Int) : imin a b = min a b := by unfold imin; split <;> omega
theorem imax_eq (a b : Int) : imax a b = max a b := by unfold imax; split <;> omega
theorem range_get' {N i x : Nat} (h : (List.range N)[i]? = some x) : x = i := by
 rw [List.getElem?_eq_some_iff] at h
 obtain ⟨h1, h2⟩ := h
 simpa using h2.symm
def relab (c : Int → Int) (u v : Int) : Int → Int := fun x => if c x = max (c u) (c v) then min (c u) (c v) else c x
theorem sjoin_val {N : Nat} (hN : N ≤ 64) {c : Int → Int} {s : List Int} (hs : UF N s c) {u v : Nat} (hu : u < N) (hv : v < N) : ∃ s' b, sjoin (s, (u : Int), (v : Int), ()) = some (s', b, ()) ∧ UF N s' (relab c u v) := by
 obtain ⟨s1, e1, g1, _⟩ := sleast_val hN hs hu
 obtain ⟨s2, e2, g2, _⟩ := sleast_val hN g1 hv
 rw [sjoin_eq, sjoin_d]
 simp only [e1, e2, imin_eq, imax_eq]
 have lu := g2.le u hu
 have lv := g2.le v hv
 have iu := g2.idem u u (Nat.le_refl _) hu
 have iv := g2.idem v v (Nat.le_refl _) hv
 obtain ⟨M, hM⟩ := Int.eq_ofNat_of_zero_le (show 0 ≤ max (c (u : Int)) (c (v : Int)) by omega)
 obtain ⟨m, hm⟩ := Int.eq_ofNat_of_zero_le (show 0 ≤ min (c (u : Int)) (c (v : Int)) by omega)
 have hMN : M < N := by omega
 have hmN : m < N := by omega
 have hl := g2.len
 have cM : c (M : Int) = (M : Int) := by
  rw [← hM]
  rcases Int.le_total (c (u : Int)) (c (v : Int)) with h | h
  ·rw [Int.max_eq_right h]; exact iv
  ·rw [Int.max_eq_left h]; exact iu
 have cm : c (m : Int) = (m : Int) := by
  rw [← hm]
  rcases Int.le_total (c (u : Int)) (c (v : Int)) with h | h
  ·rw [Int.min_eq_left h]; exact iu
  ·rw [Int.min_eq_right h]; exact iv
 rw [hM, hm]
 simp only [idx_l 0 (show M < s2.length by omega), dset_l]
 refine ⟨_, _, rfl, ?_⟩
 have hset := fun j => set_getD (m : Int) (show M < s2.length by omega) j
 have hre : ∀ x, relab c u v x = if c x = (M : Int) then (m : Int) else c x := by
  intro x; unfold relab; rw [hM, hm]
 refine ⟨by rw [List.length_set]; exact hl, fun k hk => ?_, fun k hk => ?_, fun k hk hkk => ?_, fun k hk => ?_⟩
 ·rw [hset]
  by_cases e : k = M
  ·rw [if_pos e]; omega
  ·rw [if_neg e]; exact g2.lo k hk
 ·rw [hset, hre, hre]
  by_cases e : k = M
  ·subst e
   rw [if_pos rfl, if_pos cM, cm]
   split <;> rfl
  ·rw [if_neg e, g2.par k hk]
 ·rw [hset] at hkk
  rw [hre]
  by_cases e : k = M
  ·subst e
   rw [if_pos rfl] at hkk
   rw [if_pos cM]; exact hkk
  ·rw [if_neg e] at hkk
   have hr := g2.root k hk hkk
   rw [hr, if_neg (by omega)]
 ·rw [hre]
  have := g2.le k hk
  split <;> omega
theorem salone_val (N : Nat) (h : N ≤ 64) : salone ((N : Int), ()) = some ((List.range N).map fun (k : Nat) => (k : Int), ()) := by
 rw [salone_eq, salone_d]
 have f1 : fitsI (N : Int) = true := (fitsI_iff _).2 (by omega)
 rw [f1, ile_nat, decide_eq_true (Nat.le_refl _)]
 simp only [Bool.and_self]
 have hz : drep (dnat (N : Int)) (0 : Int) = List.replicate N 0 := by simp [drep, dnat]
 rw [hz]
 have e := walkL (step := salone_s0) (fun i (a : List Int) => (a, (N : Int), (i : Int), ())) (List.range N) (fun (k : Nat) a => .inl (a.set k (k : Int))) (fun a => .inl (a, ())) (fun i a => a.length = N) (by simp; omega)
  (fun i x a hi hx ha => by
   refine ⟨fun m' h' => ?_, fun r h' => by cases h'⟩
   cases h'
   have := range_get' hx
   subst this
   rw [List.length_range] at hi
   rw [salone_s0, ilt_nat, decide_eq_true hi]
   simp only [idx_l 0 (show x < a.length by omega), dset_l]
   rw [wrap_add1 (by omega)]
   exact ⟨rfl, by rw [List.length_set]; exact ha⟩)
  (fun a _ => by rw [salone_s0, List.length_range, ilt_nat, decide_eq_false (by omega)]) (List.replicate N 0) (by simp)
 have e' : iterL salone_s0 many (List.replicate N 0, (N : Int), (0 : Int), ()) = _ := e
 rw [show dlen (List.replicate N (0 : Int)) = (N : Int) by simp [dlen]]
 rw [e', walk_fold]
 have key : ∀ M, M ≤ N → (List.range M).foldl (fun (a : List Int) (k : Nat) => a.set k (k : Int)) (List.replicate N 0) = ((List.range M).map fun (k : Nat) => (k : Int)) ++ List.replicate (N - M) 0 := by
  intro M
  induction M with
  | zero => intro _; simp
  | succ M ih =>
   intro hM
   rw [List.range_succ, List.foldl_append, ih (by omega)]
   simp only [List.foldl_cons, List.foldl_nil, List.map_append, List.map_cons, List.map_nil]
   rw [List.set_append_right _ _ (by simp)]
   obtain ⟨d, hd⟩ : ∃ d, N - M = d + 1 := ⟨N - M - 1, by omega⟩
   rw [hd, show N - (M + 1) = d by omega]
   simp [List.replicate_succ]
 rw [key N (Nat.le_refl _)]
 simp
theorem UF_alone (N : Nat) : UF N ((List.range N).map fun (k : Nat) => (k : Int)) (fun x => x) := by
 have hg : ∀ k, k < N → ((List.range N).map fun (k : Nat) => (k : Int)).getD k 0 = (k : Int) := by
  intro k hk
  simp [List.getD_eq_getElem?_getD, hk]
 exact ⟨by simp, fun k hk => by rw [hg k hk]; omega, fun k hk => hg k hk, fun k hk _ => rfl, fun k hk => by omega⟩
def Tells (N : Nat) (c : Int → Int) (l : List Edge) : Prop := ∀ a b, In (N : Int) a → In (N : Int) b → (c a = c b ↔ Con l a b)
theorem Tells.snoc {N : Nat} {c : Int → Int} {l : List Edge} {e : Edge} (h : Tells N c l) (h1 : In (N : Int) e.1) (h2 : In (N : Int) e.2.1) : Tells N (relab c e.1 e.2.1) (l ++ [e]) := by
 intro a b ia ib
 rw [Con.snoc, ← h a b ia ib, ← h a _ ia h1, ← h _ b h2 ib, ← h a _ ia h2, ← h _ b h1 ib]
 unfold relab
 generalize c a = x
 generalize c b = y
 generalize c e.1 = u
 generalize c e.2.1 = v
 split <;> split <;> omega
theorem eachJoin_val {N : Nat} (h1 : 1 ≤ N) (hN : N ≤ 64) (l : List Edge) (hs : l.length < 1073741824) (ha : ∀ e ∈ l, In (N : Int) e.1 ∧ In (N : Int) e.2.1) :
  ∃ s bs c, eachJoin (l, (List.range N).map (fun (k : Nat) => (k : Int)), ()) = some (s, bs, ()) ∧ UF N s c ∧ Tells N c l := by
 rw [eachJoin_eq, eachJoin_d]
 have key : ∀ (m i n : Nat) (s : List Int) (bs : List Bool) (c : Int → Int), l.length - i = m → i ≤ l.length → m < n → bs.length = i → UF N s c → Tells N c (l.take i) →
   ∃ s' bs' c', iterO eachJoin_s0 n (s, bs, l, dlen l, (i : Int), ()) = some (.inl (s', bs', ())) ∧ UF N s' c' ∧ Tells N c' l := by
  intro m
  induction m with
  | zero =>
   intro i n s bs c hm hi hn hb hu ht
   obtain ⟨n, rfl⟩ : ∃ k, n = k + 1 := ⟨n - 1, by omega⟩
   have e : i = l.length := by omega
   subst e
   rw [iterO, eachJoin_s0, dlen_l, ilt_nat, decide_eq_false (by omega)]
   rw [List.take_length] at ht
   exact ⟨s, bs, c, rfl, hu, ht⟩
  | succ m ih =>
   intro i n s bs c hm hi hn hb hu ht
   obtain ⟨n, rfl⟩ : ∃ k, n = k + 1 := ⟨n - 1, by omega⟩
   have hi' : i < l.length := by omega
   have hx : l[i]? = some l[i] := by simp [hi']
   obtain ⟨i1, i2⟩ := ha l[i] (List.getElem_mem hi')
   obtain ⟨_, _, a1, a2⟩ := i1
   obtain ⟨_, _, b1, b2⟩ := i2
   obtain ⟨u, hu'⟩ := Int.eq_ofNat_of_zero_le a1
   obtain ⟨v, hv'⟩ := Int.eq_ofNat_of_zero_le b1
   obtain ⟨s', b, e, g⟩ := sjoin_val hN hu (u := u) (v := v) (by omega) (by omega)
   rw [iterO, eachJoin_s0, dlen_l, ilt_nat, decide_eq_true hi']
   simp only [idx_some hx, hu', hv', e, dlen_l]
   rw [fits_l (by rw [hb]; simp; omega), wrap_add1 (by omega)]
   refine ih (i + 1) n s' _ _ (by omega) (by omega) (by omega) (by rw [dapp_l, List.length_append, hb]; rfl) g ?_
   rw [List.take_add_one, hx]
   have := ht.snoc (e := l[i]) (ha l[i] (List.getElem_mem hi')).1 (ha l[i] (List.getElem_mem hi')).2
   rw [hu', hv'] at this
   exact this
 obtain ⟨s, bs, c, e, hu, ht⟩ := key l.length 0 many _ [] _ rfl (Nat.zero_le _) (by simp only [many]; omega) rfl (UF_alone N) (by
  intro a b _ _
  rw [List.take_zero]
  exact ⟨fun h => by have h : a = b := h; rw [h]; exact .refl _, fun h => h.nil⟩)
 have e' : iterL eachJoin_s0 many ((List.range N).map (fun (k : Nat) => (k : Int)), [], l, dlen l, (0 : Int), ()) = _ := (iterL_eq _ _ _).trans e
 rw [e']
 exact ⟨s, bs, c, rfl, hu, ht⟩
theorem sasked_val (n : Int) (l : List Edge) (hn : Sz n) (hs : l.length < 1073741824) (ha : ∀ e ∈ l, In n e.1 ∧ In n e.2.1) : sasked (n, l, ()) = some (0, ()) := by
 rw [sasked_eq, sasked_d]
 obtain ⟨h1, h2⟩ := hn
 rw [ilt_eq, decide_eq_false (by omega), ilt_eq, decide_eq_false (by omega)]
 have e := findL (step := sasked_s0) (fun i => (n, l, dlen l, (i : Int), ())) l (fun _ => false) (fun _ => .inl (10, ())) (.inr (.inl ())) (by omega)
  (fun i x hi hx => by
   obtain ⟨⟨_, _, a1, a2⟩, ⟨_, _, b1, b2⟩⟩ := ha x (List.mem_of_getElem? hx)
   rw [sasked_s0, dlen_l, ilt_nat, decide_eq_true hi]
   simp only [idx_some hx, imin_eq, imax_eq]
   rw [ilt_eq, decide_eq_false (by omega), ile_eq, decide_eq_false (by omega), wrap_add1 (by omega)]
   rfl)
  (by rw [sasked_s0, dlen_l, ilt_nat, decide_eq_false (by omega)])
 have e' : iterL sasked_s0 many (n, l, dlen l, (0 : Int), ()) = _ := e
 rw [e']
 simp
theorem sclasses_val (n : Int) (l : List Edge) (hn : Sz n) (hs : l.length < 1073741824) (ha : ∀ e ∈ l, In n e.1 ∧ In n e.2.1) : ∃ out, sclasses (n, l, ()) = some (out, 0, ()) ∧ ClOK n l out := by
 have hn' := hn
 obtain ⟨h1, h2⟩ := hn
 obtain ⟨N, rfl⟩ := Int.eq_ofNat_of_zero_le (show 0 ≤ n by omega)
 rw [sclasses_eq, sclasses_d]
 simp only [sasked_val _ l hn' hs ha, ieq_dec]
 obtain ⟨s, bs, c, e, hu, ht⟩ := eachJoin_val (N := N) (by omega) (by omega) l hs ha
 have ej : sjoins ((List.range N).map (fun (k : Nat) => (k : Int)), l, ()) = some (s, bs, ()) := by
  rw [sjoins_eq, sjoins_d]; simp only [e]
 simp only [decide_true, Bool.not_true, salone_val N (by omega), ej]
 have key : ∀ (m i k : Nat) (s : List Int), N - i = m → i ≤ N → m < k → UF N s c → (∀ j, j < i → s.getD j 0 = c (j : Int)) →
   ∃ s', iterO sclasses_s0 k (s, (N : Int), (i : Int), ()) = some (.inl (s', ())) ∧ UF N s' c ∧ ∀ j, j < N → s'.getD j 0 = c (j : Int) := by
  intro m
  induction m with
  | zero =>
   intro i k s hm hi hk hu hj
   obtain ⟨k, rfl⟩ : ∃ q, k = q + 1 := ⟨k - 1, by omega⟩
   have e : i = N := by omega
   subst e
   rw [iterO, sclasses_s0, ilt_nat, decide_eq_false (by omega)]
   exact ⟨s, rfl, hu, hj⟩
  | succ m ih =>
   intro i k s hm hi hk hu hj
   obtain ⟨k, rfl⟩ : ∃ q, k = q + 1 := ⟨k - 1, by omega⟩
   have hi' : i < N := by omega
   obtain ⟨s', e, g, hkeep⟩ := sleast_val (by omega) hu hi'
   have hl := g.len
   rw [iterO, sclasses_s0, ilt_nat, decide_eq_true hi']
   simp only [e, idx_l 0 (show i < s'.length by omega), dset_l]
   rw [wrap_add1 (by omega)]
   have hset := fun j => set_getD (c (i : Int)) (show i < s'.length by omega) j
   have ci := g.idem i i (Nat.le_refl _) hi'
   refine ih (i + 1) k _ (by omega) (by omega) (by omega) ⟨by rw [List.length_set]; exact hl, fun q hq => ?_, fun q hq => ?_, fun q hq hqq => ?_, g.le⟩ fun j hj' => ?_
   ·rw [hset]
    by_cases e : q = i
    ·subst e; rw [if_pos rfl]; exact g.le q hq
    ·rw [if_neg e]; exact g.lo q hq
   ·rw [hset]
    by_cases e : q = i
    ·subst e; rw [if_pos rfl]; exact ci
    ·rw [if_neg e]; exact g.par q hq
   ·rw [hset] at hqq
    by_cases e : q = i
    ·subst e; rw [if_pos rfl] at hqq; exact hqq
    ·rw [if_neg e] at hqq; exact g.root q hq hqq
   ·rw [hset]
    by_cases e : j = i
    ·subst e; rw [if_pos rfl]
    ·rw [if_neg e]; exact hkeep j (by omega) (hj j (by omega))
 obtain ⟨o, e, g, ho⟩ := key N 0 many s rfl (Nat.zero_le _) (by simp only [many]; omega) hu (fun j hj => by omega)
 have e' : iterL sclasses_s0 many (s, (N : Int), (0 : Int), ()) = _ := (iterL_eq _ _ _).trans e
 rw [dlen_l, hu.len, e']
 refine ⟨o, rfl, ?_⟩
 have hcl : ∀ a, In (N : Int) a → cl o a = c a ∧ (0 ≤ c a ∧ c a ≤ a) ∧ c (c a) = c a := by
  rintro a ⟨_, _, a1, a2⟩
  obtain ⟨k, rfl⟩ := Int.eq_ofNat_of_zero_le a1
  refine ⟨?_, g.le k (by omega), g.idem k k (Nat.le_refl _) (by omega)⟩
  unfold cl
  rw [Int.toNat_natCast]
  exact ho k (by omega)
 have isin : ∀ a, In (N : Int) a → In (N : Int) (c a) := by
  intro a ia
  obtain ⟨_, h, _⟩ := hcl a ia
  obtain ⟨q1, q2, a1, a2⟩ := ia
  exact ⟨q1, q2, by omega, by omega⟩
 refine ⟨by rw [g.len], fun a b ia ib => ?_, fun a ia => ?_, fun a ia => ?_, fun a b ia ib hc => ?_⟩
 ·rw [(hcl a ia).1, (hcl b ib).1]; exact ht a b ia ib
 ·rw [(hcl a ia).1]; exact isin a ia
 ·rw [(hcl a ia).1]
  exact (ht a (c a) ia (isin a ia)).1 (hcl a ia).2.2.symm
 ·rw [(hcl a ia).1, (ht a b ia ib).2 hc]
  exact (hcl b ib).2.1.2
end Go.Pev.Pl
end
section
namespace Go.Pev.Pl
set_option linter.unusedSimpArgs false
def sh (n : Int) : Prop := 0 ≤ n ∧ n ≤ 65535
instance (n : Int) : Decidable (sh n) := inferInstanceAs (Decidable (_ ∧ _))
def tw (n : Int) : List Int := [n / 256, n % 256]
theorem foldl_app {α β : Type} (g : β → α) : ∀ (xs : List β) (a : List α), xs.foldl (fun a x => a ++ [g x]) a = a ++ xs.map g := by
 intro xs
 induction xs with
 | nil => intro a; simp
 | cons x xs ih => intro a; rw [List.foldl_cons, ih]; simp
end Go.Pev.Pl
end
section
namespace Go.Pev.Pl
set_option linter.unusedSimpArgs false
abbrev Res := Int × Int × List Int × Unit
def val (r : Res) : Prop := (0 ≤ r.1 ∧ r.1 ≤ 255) ∧ sh r.2.1 ∧ sh (r.2.2.1.length : Int) ∧ ∀ x ∈ r.2.2.1, sh x
instance (r : Res) : Decidable (val r) := inferInstanceAs (Decidable (_ ∧ _ ∧ _ ∧ _))
def enc (r : Res) : List Int := r.1 :: (tw r.2.1 ++ (tw (r.2.2.1.length : Int) ++ r.2.2.1.flatMap tw))
end Go.Pev.Pl
end
section
namespace Go.Pev.Pl
set_option linter.unusedSimpArgs false
set_option maxRecDepth 100000
theorem ieq_self' (a : Int) : ieq a a = true := by rw [ieq_eq]; simp
end Go.Pev.Pl
end
section
namespace Go.Pev.Pl
open Go.RowKit Tok
section
variable {n : Int} {rings : List (List Int)}
theorem hd_class {l : List Edge} {out : List Int} (h : FC n rings l) (hc : ClOK n l out) {A : List Int} {u : Int} (hA : A ∈ rings) (iu : In n u) (hu : u ∈ A) : hd A = cl out u := by
 have gA := h.fr.rg A hA
 have ih := RG_head gA
 have hh := hd_mem gA.2.1
 have h1 : Con l u (hd A) := (h.sam u (hd A) iu ih).1 ⟨A, hA, hu, hh⟩
 have h2 := hc.least u (hd A) iu ih h1
 have h3 := hc.isin u iu
 obtain ⟨K, hK, k1, k2⟩ := (h.sam u _ iu h3).2 (hc.con u iu)
 have := h.fr.one hA hK iu.2.2.2 hu k1
 subst this
 have h4 := (minL_spec gA.2.1).2 _ k2
 rw [gA.2.2.1] at h4
 have : hd A = A.headD 0 := rfl
 omega
end
end Go.Pev.Pl
end
section
namespace Go.Pev.Pl
set_option linter.unusedSimpArgs false
set_option maxRecDepth 100000
def topV (n : Nat) : Int := ((@top21 idI ((n : Int), ())).getD (0, ())).1
theorem tops : ((List.range 65).all fun k => decide (@top21 idI ((k : Int), ()) = some (topV k, ()))) = true := by kernel_rfl
theorem topsL : ((List.range 65).all fun k => decide (@ltop idI ((k : Int), ()) = some (topV k, ()))) = true := by kernel_rfl
theorem top21_val (n : Nat) (h : n ≤ 64) : top21 ((n : Int), ()) = some (topV n, ()) := by
 rw [show top21 ((n : Int), ()) = @top21 idI ((n : Int), ()) from congrArg (fun i => @top21 i ((n : Int), ())) lockI_eq]
 exact of_decide_eq_true (List.all_eq_true.1 tops n (by simp; omega))
theorem ltop_val (n : Nat) (h : n ≤ 64) : ltop ((n : Int), ()) = some (topV n, ()) := by
 rw [show ltop ((n : Int), ()) = @ltop idI ((n : Int), ()) from congrArg (fun i => @ltop i ((n : Int), ())) lockI_eq]
 exact of_decide_eq_true (List.all_eq_true.1 topsL n (by simp; omega))
def cmpV (a b : Int) : Int := if a < b then -1 else if b < a then 1 else 0
theorem compareI_val (a b : Int) : compareI (a, b, ()) = some (cmpV a b, ()) := by
 rw [compareI_eq, compareI_d]
 simp only [nanI_eq, nanI_d, ieq_self', Bool.not_true]
 unfold cmpV
 rw [ilt_eq, ilt_eq]
 by_cases h : a < b
 ·rw [decide_eq_true h, if_pos h]
 ·rw [decide_eq_false h, if_neg h]
  by_cases h' : b < a
  ·rw [decide_eq_true h', if_pos h']
  ·rw [decide_eq_false h', if_neg h']
theorem orI_val (a b : Int) : orI ([a, b], ()) = some (if a = 0 then b else a, ()) := by
 rw [orI_eq, orI_d]
 have e := findL (step := orI_s0) (fun i => (0, [a, b], dlen [a, b], (i : Int), ())) [a, b] (fun x => !decide (x = 0)) (fun i => .inl ([a, b].getD i 0, ())) (.inr (.inl (0, ()))) (by simp)
  (fun i x hi hx => by
   rw [orI_s0, dlen_l, ilt_nat, decide_eq_true hi]
   simp only [idx_some hx, ieq_dec]
   have hi2 : i < 2 := hi
   rw [wrap_add1 (by omega)]
   have hg : [a, b].getD i 0 = x := by rw [List.getD_eq_getElem?_getD, hx]; rfl
   rw [hg]
   by_cases h : x = 0
   ·simp [h]
   ·simp [h])
  (by rw [orI_s0, dlen_l, ilt_nat, decide_eq_false (by omega)])
 have e' : iterL orI_s0 many (0, [a, b], dlen [a, b], (0 : Int), ()) = _ := e
 rw [e']
 by_cases h : a = 0
 ·by_cases h' : b = 0
  ·simp [h, h']
  ·simp [h, h', List.findIdx_cons]
 ·simp [h, List.findIdx_cons]
theorem lcompare_val (p x : Tie) : ∃ y, lcompare (p, x, ()) = some (y, ()) ∧ ile 0 y = !decide (ahead p x) := by
 rw [lcompare_eq, lcompare_d]
 simp only [compareI_val, orI_val]
 refine ⟨_, rfl, ?_⟩
 rw [ile_eq]
 by_cases h : ahead p x
 ·rw [decide_eq_true h]
  unfold ahead at h
  unfold cmpV
  rw [decide_eq_false]; · rfl
  split <;> split <;> (try split) <;> omega
 ·rw [decide_eq_false h]
  unfold ahead at h
  unfold cmpV
  rw [decide_eq_true]; · rfl
  split <;> split <;> (try split) <;> omega
def okAt (N : Nat) (ts : List Tie) (i : Nat) : Prop :=
 0 ≤ (ts.getD i zT).1 ∧ (ts.getD i zT).1 < (ts.getD i zT).2.1 ∧ (ts.getD i zT).2.1 < (N : Int) ∧ 0 ≤ (ts.getD i zT).2.2.1 ∧ (ts.getD i zT).2.2.1 ≤ topV N ∧ (i = 0 ∨ ahead (ts.getD (i - 1) zT) (ts.getD i zT))
instance (N : Nat) (ts : List Tie) (i : Nat) : Decidable (okAt N ts i) := inferInstanceAs (Decidable (_ ∧ _ ∧ _ ∧ _ ∧ _ ∧ _))
def trs (ts : List Tie) (k : Nat) : List Edge := (List.range k).foldl (fun a i => if (ts.getD i zT).2.2.2.1 = true then a ++ [ed (ts.getD i zT)] else a) []
theorem walk_all {α β ρ : Type} (P : β → Prop) [DecidablePred P] (g : β → α → α) (fin : α → ρ) (rt : ρ) : ∀ (xs : List β) (a : α), walk (fun x a => if P x then .inl (g x a) else .inr rt) fin xs a = if ∀ x ∈ xs, P x then fin (xs.foldl (fun a x => g x a) a) else rt := by
 intro xs
 induction xs with
 | nil => intro a; simp [walk]
 | cons x xs ih =>
  intro a
  rw [walk]
  by_cases h : P x
  ·rw [if_pos h]
   simp only []
   rw [ih]
   simp [h]
  ·rw [if_neg h]
   simp [h]
theorem trs_succ (ts : List Tie) (k : Nat) : trs ts (k + 1) = if (ts.getD k zT).2.2.2.1 = true then trs ts k ++ [ed (ts.getD k zT)] else trs ts k := by
 unfold trs
 rw [List.range_succ, List.foldl_append]
 rfl
theorem trs_len (ts : List Tie) : ∀ k, (trs ts k).length ≤ k := by
 intro k
 induction k with
 | zero => exact Nat.le_refl _
 | succ k ih =>
  rw [trs_succ]
  split
  ·rw [List.length_append]; simp; omega
  ·omega
theorem trs_mem (ts : List Tie) (e : Edge) : ∀ k, e ∈ trs ts k → ∃ i, i < k ∧ e = ed (ts.getD i zT) := by
 intro k
 induction k with
 | zero => intro h; simp [trs] at h
 | succ k ih =>
  intro h
  rw [trs_succ] at h
  split at h
  ·rcases List.mem_append.1 h with h | h
   ·obtain ⟨i, h1, h2⟩ := ih h; exact ⟨i, by omega, h2⟩
   ·simp only [List.mem_singleton] at h; exact ⟨k, by omega, h⟩
  ·obtain ⟨i, h1, h2⟩ := ih h; exact ⟨i, by omega, h2⟩
def oks (N : Nat) (ts : List Tie) : Prop := ∀ i ∈ List.range ts.length, okAt N ts i
instance (N : Nat) (ts : List Tie) : Decidable (oks N ts) := inferInstanceAs (Decidable (∀ i ∈ List.range ts.length, okAt N ts i))
theorem lright_loop (N : Nat) (hN : N ≤ 64) (ts : List Tie) (hs : ts.length ≤ 400) :
  iterL lright_s0 many ((N : Int), ts, topV N, ts, dlen ts, (0 : Int), ()) = some (if oks N ts then .inr (.inl ((N : Int), ts, ())) else .inl (false, ())) := by
 have e := walkL (step := lright_s0) (fun i (_ : Unit) => ((N : Int), ts, topV N, ts, dlen ts, (i : Int), ())) (List.range ts.length) (fun i a => if okAt N ts i then .inl a else .inr (.inl (false, ()))) (fun _ => .inr (.inl ((N : Int), ts, ()))) (fun _ _ => True) (by simp; omega)
  (fun i x a hi hx _ => by
   have := range_get' hx
   subst this
   rw [List.length_range] at hi
   have step : lright_s0 ((N : Int), ts, topV N, ts, dlen ts, (x : Int), ()) = if okAt N ts x then some (.inl ((N : Int), ts, topV N, ts, dlen ts, ((x + 1 : Nat) : Int), ())) else some (.inr (.inl (false, ()))) := by
    rw [lright_s0, dlen_l, ilt_nat, decide_eq_true hi]
    simp only [idx_l zT hi]
    obtain ⟨t, ht⟩ : ∃ t, ts.getD x zT = t := ⟨_, rfl⟩
    have hk : okAt N ts x ↔ (0 ≤ t.1 ∧ t.1 < t.2.1 ∧ t.2.1 < (N : Int) ∧ 0 ≤ t.2.2.1 ∧ t.2.2.1 ≤ topV N ∧ (x = 0 ∨ ahead (ts.getD (x - 1) zT) t)) := by unfold okAt; rw [ht]
    rw [ht]
    rw [ilt_eq, ile_eq, ile_eq, ilt_eq, ilt_eq]
    by_cases h1 : t.1 < 0
    ·rw [decide_eq_true h1, if_neg (fun h => by obtain ⟨q1, q2, q3, q4, q5, _⟩ := hk.1 h; omega)]
    rw [decide_eq_false h1]
    by_cases h2 : t.2.1 ≤ t.1
    ·rw [decide_eq_true h2, if_neg (fun h => by obtain ⟨q1, q2, q3, q4, q5, _⟩ := hk.1 h; omega)]
    rw [decide_eq_false h2]
    by_cases h3 : (N : Int) ≤ t.2.1
    ·rw [decide_eq_true h3, if_neg (fun h => by obtain ⟨q1, q2, q3, q4, q5, _⟩ := hk.1 h; omega)]
    rw [decide_eq_false h3]
    by_cases h4 : t.2.2.1 < 0
    ·rw [decide_eq_true h4, if_neg (fun h => by obtain ⟨q1, q2, q3, q4, q5, _⟩ := hk.1 h; omega)]
    rw [decide_eq_false h4]
    by_cases h5 : topV N < t.2.2.1
    ·rw [decide_eq_true h5, if_neg (fun h => by obtain ⟨q1, q2, q3, q4, q5, _⟩ := hk.1 h; omega)]
    rw [decide_eq_false h5]
    simp only []
    rw [wrap_add1 (by omega), ilt_eq]
    by_cases h6 : x = 0
    ·subst h6
     rw [decide_eq_false (by omega), if_pos (hk.2 ⟨by omega, by omega, by omega, by omega, by omega, .inl rfl⟩)]
    ·rw [decide_eq_true (by omega), wrap_in (by omega), show ((x : Int) - 1) = ((x - 1 : Nat) : Int) by omega]
     simp only [idx_l zT (show x - 1 < ts.length by omega)]
     obtain ⟨y, ey, hy⟩ := lcompare_val (ts.getD (x - 1) zT) t
     have ey' : lcompare (((ts.getD (x - 1) zT).1, ((ts.getD (x - 1) zT).2.1, ((ts.getD (x - 1) zT).2.2.1, ((ts.getD (x - 1) zT).2.2.2.1, ())))), (t.1, (t.2.1, (t.2.2.1, (t.2.2.2.1, ())))), ()) = some (y, ()) := ey
     simp only [ey', hy]
     by_cases h7 : ahead (ts.getD (x - 1) zT) t
     ·rw [decide_eq_true h7, if_pos (hk.2 ⟨by omega, by omega, by omega, by omega, by omega, .inr h7⟩)]
      rfl
     ·rw [decide_eq_false h7, if_neg (fun h => by rcases (hk.1 h).2.2.2.2.2 with h | h; exact h6 h; exact h7 h)]
      rfl
   by_cases h : okAt N ts x
   ·rw [if_pos h] at step ⊢
    refine ⟨fun m' h' => ?_, fun r h' => (by cases h')⟩
    cases h'
    exact ⟨step, trivial⟩
   ·rw [if_neg h] at step ⊢
    refine ⟨fun m' h' => (by cases h'), fun r h' => ?_⟩
    cases h'
    exact step)
  (fun a _ => by rw [lright_s0, List.length_range, dlen_l, ilt_nat, decide_eq_false (by omega)]) () trivial
 have e' : iterL lright_s0 many ((N : Int), ts, topV N, ts, dlen ts, (0 : Int), ()) = _ := e
 rw [e', walk_all (okAt N ts) (fun _ a => a)]
 rfl
theorem right21_loop (N : Nat) (hN : N ≤ 64) (ts : List Tie) (hs : ts.length ≤ 400) :
  iterL right21_s0 many ((N : Int), ts, [], (0 : Int), ()) = some (if oks N ts then .inr (.inl ((N : Int), ts, trs ts ts.length, ())) else .inl (false, ())) := by
 have e := walkL (step := right21_s0) (fun i (a : List Edge) => ((N : Int), ts, a, (i : Int), ())) (List.range ts.length) (fun i a => if okAt N ts i then .inl (if (ts.getD i zT).2.2.2.1 = true then a ++ [ed (ts.getD i zT)] else a) else .inr (.inl (false, ()))) (fun a => .inr (.inl ((N : Int), ts, a, ()))) (fun i a => a.length ≤ i) (by simp; omega)
  (fun i x a hi hx ha => by
   have := range_get' hx
   subst this
   rw [List.length_range] at hi
   have step : right21_s0 ((N : Int), ts, a, (x : Int), ()) = if okAt N ts x then some (.inl ((N : Int), ts, if (ts.getD x zT).2.2.2.1 = true then a ++ [ed (ts.getD x zT)] else a, ((x + 1 : Nat) : Int), ())) else some (.inr (.inl (false, ()))) := by
    rw [right21_s0, dlen_l, ilt_nat, decide_eq_true hi]
    simp only [idx_l zT hi, top21_val N hN]
    obtain ⟨t, ht⟩ : ∃ t, ts.getD x zT = t := ⟨_, rfl⟩
    have hk : okAt N ts x ↔ (0 ≤ t.1 ∧ t.1 < t.2.1 ∧ t.2.1 < (N : Int) ∧ 0 ≤ t.2.2.1 ∧ t.2.2.1 ≤ topV N ∧ (x = 0 ∨ ahead (ts.getD (x - 1) zT) t)) := by unfold okAt; rw [ht]
    rw [ht]
    rw [ilt_eq, ile_eq, ile_eq, ilt_eq, ilt_eq]
    by_cases h1 : t.1 < 0
    ·rw [decide_eq_true h1, if_neg (fun h => by obtain ⟨q1, q2, q3, q4, q5, _⟩ := hk.1 h; omega)]
    rw [decide_eq_false h1]
    by_cases h2 : t.2.1 ≤ t.1
    ·rw [decide_eq_true h2, if_neg (fun h => by obtain ⟨q1, q2, q3, q4, q5, _⟩ := hk.1 h; omega)]
    rw [decide_eq_false h2]
    by_cases h3 : (N : Int) ≤ t.2.1
    ·rw [decide_eq_true h3, if_neg (fun h => by obtain ⟨q1, q2, q3, q4, q5, _⟩ := hk.1 h; omega)]
    rw [decide_eq_false h3]
    by_cases h4 : t.2.2.1 < 0
    ·rw [decide_eq_true h4, if_neg (fun h => by obtain ⟨q1, q2, q3, q4, q5, _⟩ := hk.1 h; omega)]
    rw [decide_eq_false h4]
    by_cases h5 : topV N < t.2.2.1
    ·rw [decide_eq_true h5, if_neg (fun h => by obtain ⟨q1, q2, q3, q4, q5, _⟩ := hk.1 h; omega)]
    rw [decide_eq_false h5]
    simp only [dlen_l]
    have hfit : fits ((a.length : Int) + (([(t.1, t.2.1, ())] : List Edge).length : Int)) = true := fits_l (by simp; omega)
    rw [wrap_add1 (by omega), ilt_eq]
    by_cases h6 : x = 0
    ·subst h6
     rw [decide_eq_false (by omega), if_pos (hk.2 ⟨by omega, by omega, by omega, by omega, by omega, .inl rfl⟩)]
     cases ht4 : t.2.2.2.1
     ·simp
     ·simp only [hfit]
      simp [ed, dapp]
    ·rw [decide_eq_true (by omega), wrap_in (by omega), show ((x : Int) - 1) = ((x - 1 : Nat) : Int) by omega]
     simp only [idx_l zT (show x - 1 < ts.length by omega), ieq_dec]
     generalize ts.getD (x - 1) zT = p at hk ⊢
     rw [ilt_eq, ile_eq]
     by_cases h7 : t.1 < p.1
     ·rw [decide_eq_true h7, if_neg (fun h => by rcases (hk.1 h).2.2.2.2.2 with h | h | h <;> omega)]
     rw [decide_eq_false h7]
     by_cases h8 : p.1 = t.1
     ·rw [decide_eq_true h8]
      by_cases h9 : t.2.1 ≤ p.2.1
      ·rw [decide_eq_true h9, if_neg (fun h => by rcases (hk.1 h).2.2.2.2.2 with h | h | h <;> omega)]
      rw [decide_eq_false h9, if_pos (hk.2 ⟨by omega, by omega, by omega, by omega, by omega, .inr (.inr ⟨h8, by omega⟩)⟩)]
      cases ht4 : t.2.2.2.1
      ·simp
      ·simp only [hfit]
       simp [ed, dapp]
     ·rw [decide_eq_false h8, if_pos (hk.2 ⟨by omega, by omega, by omega, by omega, by omega, .inr (.inl (by omega))⟩)]
      cases ht4 : t.2.2.2.1
      ·simp
      ·simp only [hfit]
       simp [ed, dapp]
   by_cases h : okAt N ts x
   ·rw [if_pos h] at step ⊢
    refine ⟨fun m' h' => ?_, fun r h' => (by cases h')⟩
    cases h'
    refine ⟨step, ?_⟩
    split
    ·rw [List.length_append]; simp; omega
    ·omega
   ·rw [if_neg h] at step ⊢
    refine ⟨fun m' h' => (by cases h'), fun r h' => ?_⟩
    cases h'
    exact step)
  (fun a _ => by rw [right21_s0, List.length_range, dlen_l, ilt_nat, decide_eq_false (by omega)]) [] (Nat.le_refl _)
 have e' : iterL right21_s0 many ((N : Int), ts, [], (0 : Int), ()) = _ := e
 rw [e', walk_all (okAt N ts) (fun i a => if (ts.getD i zT).2.2.2.1 = true then a ++ [ed (ts.getD i zT)] else a)]
 rfl
end Go.Pev.Pl
end
end
section
section
namespace Go.Pev.Pl
set_option linter.unusedSimpArgs false
set_option maxRecDepth 100000
theorem okAt_in {N : Nat} {ts : List Tie} (hN : N ≤ 64) {i : Nat} (h : okAt N ts i) : In (N : Int) (ed (ts.getD i zT)).1 ∧ In (N : Int) (ed (ts.getD i zT)).2.1 := by
 obtain ⟨q1, q2, q3, _⟩ := h
 exact ⟨⟨by omega, by omega, q1, by show (ts.getD i zT).1 < _; omega⟩, ⟨by omega, by omega, by show 0 ≤ (ts.getD i zT).2.1; omega, q3⟩⟩
theorem trs_in {N : Nat} {ts : List Tie} (hN : N ≤ 64) (h : oks N ts) : ∀ e ∈ trs ts ts.length, In (N : Int) e.1 ∧ In (N : Int) e.2.1 := by
 intro e he
 obtain ⟨i, hi, rfl⟩ := trs_mem ts e _ he
 exact okAt_in hN (h i (by simp [hi]))
theorem eds_in {N : Nat} {ts : List Tie} (hN : N ≤ 64) (h : oks N ts) : ∀ e ∈ ts.map ed, In (N : Int) e.1 ∧ In (N : Int) e.2.1 := by
 intro e he
 obtain ⟨t, ht, rfl⟩ := List.mem_map.1 he
 obtain ⟨i, hi, rfl⟩ := List.getElem_of_mem ht
 have := okAt_in hN (h i (by simp [hi]))
 simpa [hi] using this
theorem ltrees_val {N : Nat} (ts : List Tie) (hs : ts.length ≤ 400) (h : oks N ts) : ltrees (((N : Int), (ts, ())), (0 : Int), ()) = some (trs ts ts.length, ()) := by
 rw [ltrees_eq, ltrees_d]
 have e := walkL (step := ltrees_s0) (fun i (a : List Edge) => ((0 : Int), a, ts, dlen ts, (i : Int), ())) (List.range ts.length) (fun i a => .inl (if (ts.getD i zT).2.2.2.1 = true then a ++ [ed (ts.getD i zT)] else a)) (fun a => .inl (a, ())) (fun i a => a.length ≤ i) (by simp; omega)
  (fun i x a hi hx ha => by
   refine ⟨fun m' h' => ?_, fun r h' => (by cases h')⟩
   cases h'
   have := range_get' hx
   subst this
   rw [List.length_range] at hi
   have hlv := (h x (by simp [hi])).2.2.2.1
   constructor
   ·rw [ltrees_s0, dlen_l, ilt_nat, decide_eq_true hi]
    simp only [idx_l zT hi, dlen_l]
    have hfit : fits ((a.length : Int) + (([((ts.getD x zT).1, (ts.getD x zT).2.1, ())] : List Edge).length : Int)) = true := fits_l (by simp; omega)
    rw [wrap_add1 (by omega), ile_eq, decide_eq_true hlv]
    cases ht4 : (ts.getD x zT).2.2.2.1
    ·simp
    ·simp only [hfit]
     simp [ed, dapp]
   ·split
    ·rw [List.length_append]; simp; omega
    ·omega)
  (fun a _ => by rw [ltrees_s0, List.length_range, dlen_l, ilt_nat, decide_eq_false (by omega)]) [] (Nat.le_refl _)
 have e' : iterL ltrees_s0 many ((0 : Int), [], ts, dlen ts, (0 : Int), ()) = _ := e
 simp only [e']
 rw [walk_fold (fun i a => if (ts.getD i zT).2.2.2.1 = true then a ++ [ed (ts.getD i zT)] else a)]
 rfl
def cnt (out : List Int) (N : Nat) : Nat := ((List.range N).filter fun k => decide (out.getD k 0 = (k : Int))).length
theorem rings_count {N : Nat} {rings : List (List Int)} {l : List Edge} {out : List Int} (h : FC (N : Int) rings l) (hc : ClOK (N : Int) l out) : rings.length = cnt out N := by
 have hsz := h.fr.sz
 have hp : (rings.map hd).Perm (((List.range N).filter fun k => decide (out.getD k 0 = (k : Int))).map fun (k : Nat) => (k : Int)) := by
  rw [List.perm_ext_iff_of_nodup]
  ·intro a
   simp only [List.mem_map, List.mem_filter, List.mem_range, decide_eq_true_eq]
   constructor
   ·rintro ⟨A, hA, rfl⟩
    have gA := h.fr.rg A hA
    have ih : In (N : Int) (hd A) := RG_head gA
    have hh := hd_mem gA.2.1
    have := hd_class h hc hA ih hh
    obtain ⟨_, _, a1, a2⟩ := ih
    refine ⟨(hd A).toNat, ⟨by omega, ?_⟩, by omega⟩
    rw [show out.getD (hd A).toNat 0 = cl out (hd A) from rfl, ← this]
    omega
   ·rintro ⟨k, ⟨hk, ho⟩, rfl⟩
    have ik : In (N : Int) (k : Int) := ⟨hsz.1, hsz.2, by omega, by omega⟩
    obtain ⟨A, hA, hm⟩ := h.fr.cov _ ik
    refine ⟨A, hA, ?_⟩
    rw [hd_class h hc hA ik hm]
    unfold cl
    rw [Int.toNat_natCast]; exact ho
  ·exact (List.pairwise_map.2 h.fr.up).imp (fun h => by omega)
  ·refine List.Pairwise.map _ (S := fun a b => a ≠ b) (R := fun a b => a ≠ b) (fun a b h h' => h (by omega)) ?_
   exact (List.nodup_range).filter _
 have := hp.length_eq
 rw [List.length_map, List.length_map] at this
 exact this
theorem right21_count (N : Nat) (hN : N ≤ 64) (p : List Tie) (q : List Edge) (out : List Int) (ho : out.length = N) : iterL right21_s1 many ((N : Int), p, q, out, (0 : Int), (0 : Int), ()) = some (.inl ((N : Int), p, q, (cnt out N : Int), ())) := by
 have e := walkL (step := right21_s1) (fun i (a : Nat) => ((N : Int), p, q, out, (a : Int), (i : Int), ())) (List.range N) (fun k a => .inl (if out.getD k 0 = (k : Int) then a + 1 else a)) (fun a => .inl ((N : Int), p, q, (a : Int), ())) (fun i a => a ≤ i) (by simp; omega)
  (fun i x a hi hx ha => by
   refine ⟨fun m' h' => ?_, fun r h' => (by cases h')⟩
   cases h'
   have := range_get' hx
   subst this
   rw [List.length_range] at hi
   constructor
   ·rw [right21_s1, ilt_nat, decide_eq_true hi]
    simp only [idx_l 0 (show x < out.length by omega), dget_l, ieq_dec]
    rw [wrap_add1 (by omega), wrap_add1 (by omega)]
    by_cases h : out.getD x 0 = (x : Int)
    ·rw [decide_eq_true h, if_pos h]
    ·rw [decide_eq_false h, if_neg h]
   ·split <;> omega)
  (fun a _ => by rw [right21_s1, List.length_range, ilt_nat, decide_eq_false (by omega)]) 0 (Nat.le_refl _)
 have e' : iterL right21_s1 many ((N : Int), p, q, out, (0 : Int), (0 : Int), ()) = _ := e
 rw [e', walk_fold (fun k a => if out.getD k 0 = (k : Int) then a + 1 else a)]
 have key : ∀ (xs : List Nat) (a : Nat), xs.foldl (fun a k => if out.getD k 0 = (k : Int) then a + 1 else a) a = a + (xs.filter fun k => decide (out.getD k 0 = (k : Int))).length := by
  intro xs
  induction xs with
  | nil => intro a; rfl
  | cons x xs ih =>
   intro a
   rw [List.foldl_cons, ih, List.filter_cons]
   by_cases h : out.getD x 0 = (x : Int)
   ·simp only [h, if_true, decide_true, List.length_cons]; omega
   ·simp only [h, if_false, decide_false, Bool.false_eq_true]
 rw [key, Nat.zero_add]
 rfl
theorem both_right (n : Int) (ts : List Tie) (hl : ts.length < 4611686018427387904) : ∃ b : Bool, right21 ((n, (ts, ())), ()) = some (b, ()) ∧ lright ((n, (ts, ())), ()) = some (b, ()) ∧ (b = true → ∃ N : Nat, n = (N : Int) ∧ 1 ≤ N ∧ N ≤ 64 ∧ ts.length ≤ 400 ∧ oks N ts) := by
 by_cases hn : ¬ (1 ≤ n ∧ n ≤ 64)
 ·refine ⟨false, ?_, ?_, fun h => by cases h⟩
  ·rw [right21_eq, right21_d, ilt_eq, ilt_eq]
   by_cases h : n < 1
   ·simp only [decide_eq_true h]
   ·simp only [decide_eq_false h, decide_eq_true (show 64 < n by omega)]
  ·rw [lright_eq, lright_d]
   simp only [lsized_eq, lsized_d, ile_eq]
   by_cases h : 1 ≤ n
   ·simp only [decide_eq_true h, decide_eq_false (show ¬ n ≤ 64 by omega), Bool.not_false]
   ·simp only [decide_eq_false h, Bool.not_false]
 have hn := Classical.not_not.1 hn
 obtain ⟨N, rfl⟩ := Int.eq_ofNat_of_zero_le (show 0 ≤ n by omega)
 have hsz : lsized ((N : Int), ()) = some (true, ()) := by
  simp only [lsized_eq, lsized_d, ile_eq, decide_eq_true hn.1, decide_eq_true hn.2]
 by_cases h4 : ¬ ts.length ≤ 400
 ·refine ⟨false, ?_, ?_, fun h => by cases h⟩
  ·rw [right21_eq, right21_d]
   simp only [ilt_eq, dlen_l]
   rw [decide_eq_false (show ¬ (N : Int) < 1 by omega), decide_eq_false (show ¬ 64 < (N : Int) by omega), decide_eq_true (show 400 < (ts.length : Int) by omega)]
  ·rw [lright_eq, lright_d]
   simp only [hsz, Bool.not_true, ilt_eq, dlen_l]
   rw [decide_eq_true (show 400 < (ts.length : Int) by omega)]
 have h4 := Classical.not_not.1 h4
 have R := right21_loop N (by omega) ts h4
 have L := lright_loop N (by omega) ts h4
 by_cases ho : ¬ oks N ts
 ·rw [if_neg ho] at R L
  refine ⟨false, ?_, ?_, fun h => by cases h⟩
  ·rw [right21_eq, right21_d]
   simp only [ilt_eq, dlen_l]
   rw [decide_eq_false (show ¬ (N : Int) < 1 by omega), decide_eq_false (show ¬ 64 < (N : Int) by omega), decide_eq_false (show ¬ 400 < (ts.length : Int) by omega)]
   simp only [R]
  ·rw [lright_eq, lright_d]
   simp only [hsz, Bool.not_true, ilt_eq, dlen_l, ltop_val N (by omega)]
   rw [decide_eq_false (show ¬ 400 < (ts.length : Int) by omega)]
   rw [dlen_l] at L
   simp only [L]
 have ho := Classical.not_not.1 ho
 rw [if_pos ho] at R L
 have hin := trs_in (show N ≤ 64 by omega) ho
 have hlen := trs_len ts ts.length
 obtain ⟨out, hc, hcl⟩ := classes19_val (N : Int) (trs ts ts.length) hn (by omega) hin
 rcases (fof_val (N : Int) (trs ts ts.length) hn (by omega)).symm with ⟨hno, _⟩ | ⟨_, rings, hf, hfc⟩
 ·exact absurd hin hno
 have hcount := rings_count hfc hcl
 have hol : out.length = N := by have := hcl.len; omega
 refine ⟨decide ((cnt out N : Int) = (N : Int) - (trs ts ts.length).length), ?_, ?_, fun _ => ⟨N, rfl, by omega, by omega, h4, ho⟩⟩
 ·rw [right21_eq, right21_d]
  simp only [ilt_eq, dlen_l]
  rw [decide_eq_false (show ¬ (N : Int) < 1 by omega), decide_eq_false (show ¬ 64 < (N : Int) by omega), decide_eq_false (show ¬ 400 < (ts.length : Int) by omega)]
  simp only [R, hc, right21_count N (by omega) _ _ out hol, ieq_dec]
  rw [wrap_in (by omega)]
 ·rw [lright_eq, lright_d]
  simp only [hsz, Bool.not_true, ilt_eq, dlen_l, ltop_val N (by omega)]
  rw [decide_eq_false (show ¬ 400 < (ts.length : Int) by omega)]
  rw [dlen_l] at L
  simp only [L, ltrees_val ts h4 ho, hf, ieq_self', ieq_dec, hcount]
  rw [wrap_in (by omega)]
end Go.Pev.Pl
end
section
namespace Go.Pev.Pl
set_option linter.unusedSimpArgs false
set_option maxRecDepth 100000
theorem ClOK.unique {N : Nat} {l : List Edge} {a b : List Int} (h1 : 1 ≤ N) (h2 : N ≤ 64) (ha : ClOK (N : Int) l a) (hb : ClOK (N : Int) l b) : a = b := by
 have la := ha.len
 have lb := hb.len
 refine eq_of_places (0 : Int) (by omega) fun k hk => ?_
 have ik : In (N : Int) (k : Int) := ⟨by omega, by omega, by omega, by omega⟩
 have e1 := ha.least _ _ ik (hb.isin _ ik) (hb.con _ ik)
 have e2 := hb.least _ _ ik (ha.isin _ ik) (ha.con _ ik)
 unfold cl at e1 e2
 rw [Int.toNat_natCast] at e1 e2
 omega
theorem foldl_eds (xs : List Tie) (a : List Edge) : xs.foldl (fun a x => a ++ [ed x]) a = a ++ xs.map ed := foldl_app ed xs a
theorem ledges_val (n : Int) (ts : List Tie) (hs : ts.length ≤ 400) (h : lright ((n, (ts, ())), ()) = some (true, ())) : ledges ((n, (ts, ())), ()) = some (ts.map ed, ()) := by
 rw [ledges_eq, ledges_d]
 simp only [h, Bool.not_true]
 have e := walkL (step := ledges_s0) (fun i (a : List Edge) => (a, ts, dlen ts, (i : Int), ())) ts (fun x a => .inl (a ++ [ed x])) (fun a => .inl (a, ())) (fun i a => a.length ≤ i) (by omega)
  (fun i x a hi hx ha => by
   refine ⟨fun m' h' => ?_, fun r h' => (by cases h')⟩
   cases h'
   constructor
   ·rw [ledges_s0]
    simp only [dlen_l]
    rw [ilt_nat, decide_eq_true hi]
    simp only [idx_some hx]
    rw [fits_l (by simp; omega), wrap_add1 (by omega)]
    rfl
   ·rw [List.length_append]; simp; omega)
  (fun a _ => by rw [ledges_s0, dlen_l, ilt_nat, decide_eq_false (by omega)]) [] (Nat.le_refl _)
 have e' : iterL ledges_s0 many ([], ts, dlen ts, (0 : Int), ()) = _ := e
 simp only [e']
 rw [walk_fold (fun x a => a ++ [ed x]), foldl_eds]
 rfl
def InV (N : Nat) (x : Int) : Prop := 0 ≤ x ∧ x < (N : Int)
instance (N : Nat) (x : Int) : Decidable (InV N x) := inferInstanceAs (Decidable (_ ∧ _))
theorem foldl_cnt (P : Nat → Prop) [DecidablePred P] : ∀ (xs : List Nat) (a : Nat), xs.foldl (fun a k => if P k then a + 1 else a) a = a + (xs.filter fun k => decide (P k)).length := by
 intro xs
 induction xs with
 | nil => intro a; rfl
 | cons x xs ih =>
  intro a
  rw [List.foldl_cons, ih, List.filter_cons]
  by_cases h : P x
  ·simp only [h, if_true, decide_true, List.length_cons]; omega
  ·simp only [h, if_false, decide_false, Bool.false_eq_true]
end Go.Pev.Pl
end
section
namespace Go.Pev.Pl
set_option linter.unusedSimpArgs false
set_option maxRecDepth 100000
end Go.Pev.Pl
end
section
namespace Go.Pev.Pl
set_option linter.unusedSimpArgs false
set_option maxRecDepth 100000
def hasE (l : List Edge) (u v : Int) : Prop := ((u, (v, ())) : Edge) ∈ l ∨ ((v, (u, ())) : Edge) ∈ l
instance (l : List Edge) (u v : Int) : Decidable (hasE l u v) := inferInstanceAs (Decidable (_ ∨ _))
def rowL (N : Nat) (l : List Edge) (u : Nat) : List Edge := ((List.range (N - (u + 1))).filter fun i => decide (hasE l (u : Int) ((u + 1 + i : Nat) : Int))).map fun (i : Nat) => ((u : Int), ((u + 1 + i : Nat) : Int), ())
def plainL (N : Nat) (l : List Edge) : List Edge := (List.range N).flatMap fun u => rowL N l u
end Go.Pev.Pl
end
section
namespace Go.Pev.Pl
set_option linter.unusedSimpArgs false
set_option maxRecDepth 100000
def comeL (N : Nat) (ts : List Tie) (l : List Edge) : List Edge := (plainL N l).filter fun x => !decide (x ∈ ts.map ed)
def putT (l : List Tie) (t : Tie) : List Tie := l.take (l.findIdx fun x => !decide (ahead x t)) ++ t :: l.drop (l.findIdx fun x => !decide (ahead x t))
end Go.Pev.Pl
end
section
namespace Go.Pev.Pl
set_option linter.unusedSimpArgs false
def valid (N : Nat) (t : Tie) : Prop := 0 ≤ t.1 ∧ t.1 < t.2.1 ∧ t.2.1 < (N : Int) ∧ 0 ≤ t.2.2.1 ∧ t.2.2.1 ≤ topV N
theorem ahead.trans {a b c : Tie} (h : ahead a b) (h' : ahead b c) : ahead a c := by
 unfold ahead at *
 omega
theorem oks_iff (N : Nat) (ts : List Tie) : oks N ts ↔ (∀ t ∈ ts, valid N t) ∧ ts.Pairwise ahead := by
 constructor
 ·intro h
  have hv : ∀ i, i < ts.length → okAt N ts i := fun i hi => h i (by simpa using hi)
  refine ⟨fun t ht => ?_, ?_⟩
  ·obtain ⟨i, hi, rfl⟩ := List.getElem_of_mem ht
   obtain ⟨q1, q2, q3, q4, q5, _⟩ := hv i hi
   simp only [List.getD_eq_getElem?_getD, List.getElem?_eq_getElem hi, Option.getD_some] at q1 q2 q3 q4 q5
   exact ⟨q1, q2, q3, q4, q5⟩
  ·have key : ∀ (d i : Nat), i + d + 1 < ts.length → ahead (ts.getD i zT) (ts.getD (i + d + 1) zT) := by
    intro d
    induction d with
    | zero =>
     intro i hi
     obtain ⟨_, _, _, _, _, q⟩ := hv (i + 0 + 1) hi
     rcases q with q | q
     ·omega
     ·simpa using q
    | succ d ih =>
     intro i hi
     have h1 := ih i (by omega)
     obtain ⟨_, _, _, _, _, q⟩ := hv (i + (d + 1) + 1) hi
     rcases q with q | q
     ·omega
     ·rw [show i + (d + 1) + 1 - 1 = i + d + 1 by omega] at q
      exact h1.trans q
   rw [List.pairwise_iff_getElem]
   intro i j hi hj hij
   have := key (j - i - 1) i (by omega)
   rw [show i + (j - i - 1) + 1 = j by omega] at this
   simpa only [List.getD_eq_getElem?_getD, List.getElem?_eq_getElem hi, List.getElem?_eq_getElem hj, Option.getD_some] using this
 ·rintro ⟨h1, h2⟩ i hi
  have hi : i < ts.length := by simpa using hi
  have e : ∀ j (hj : j < ts.length), ts.getD j zT = ts[j] := fun j hj => by
   simp only [List.getD_eq_getElem?_getD, List.getElem?_eq_getElem hj, Option.getD_some]
  obtain ⟨q1, q2, q3, q4, q5⟩ := h1 ts[i] (List.getElem_mem hi)
  unfold okAt
  rw [e i hi]
  refine ⟨q1, q2, q3, q4, q5, ?_⟩
  by_cases h0 : i = 0
  ·exact .inl h0
  ·right
   rw [e (i - 1) (by omega)]
   exact (List.pairwise_iff_getElem.1 h2) (i - 1) i (by omega) hi (by omega)
theorem putT_perm (l : List Tie) (t : Tie) : (putT l t).Perm (t :: l) := by
 unfold putT
 refine List.perm_middle.trans ?_
 rw [List.take_append_drop]
theorem putT_pair {l : List Tie} {t : Tie} (h : l.Pairwise ahead) (hn : ∀ x ∈ l, ¬ (x.1 = t.1 ∧ x.2.1 = t.2.1)) : (putT l t).Pairwise ahead := by
 induction l with
 | nil => simp [putT]
 | cons a l ih =>
  rw [List.pairwise_cons] at h
  have hna := hn a (by simp)
  have hnl : ∀ x ∈ l, ¬ (x.1 = t.1 ∧ x.2.1 = t.2.1) := fun x hx => hn x (by simp [hx])
  by_cases ha : ahead a t
  ·have e : putT (a :: l) t = a :: putT l t := by
    unfold putT
    rw [List.findIdx_cons]
    simp [ha]
   rw [e, List.pairwise_cons]
   refine ⟨fun x hx => ?_, ih h.2 hnl⟩
   rcases List.mem_cons.1 ((putT_perm l t).mem_iff.1 hx) with rfl | hx
   ·exact ha
   ·exact h.1 x hx
  ·have e : putT (a :: l) t = t :: a :: l := by
    unfold putT
    rw [List.findIdx_cons]
    simp [ha]
   have hta : ahead t a := by unfold ahead at *; omega
   rw [e, List.pairwise_cons, List.pairwise_cons]
   refine ⟨fun x hx => ?_, h.1, h.2⟩
   rcases List.mem_cons.1 hx with rfl | hx
   ·exact hta
   ·exact hta.trans (h.1 x hx)
end Go.Pev.Pl
end
section
namespace Go.Pev.Pl
set_option linter.unusedSimpArgs false
theorem mem_plainL (N : Nat) (l : List Edge) (x : Edge) : x ∈ plainL N l ↔ 0 ≤ x.1 ∧ x.1 < x.2.1 ∧ x.2.1 < (N : Int) ∧ hasE l x.1 x.2.1 := by
 unfold plainL rowL
 simp only [List.mem_flatMap, List.mem_map, List.mem_filter, List.mem_range, decide_eq_true_eq]
 constructor
 ·rintro ⟨u, hu, i, ⟨hi, he⟩, rfl⟩
  exact ⟨by show (0 : Int) ≤ (u : Int); omega, by show (u : Int) < ((u + 1 + i : Nat) : Int); omega, by show ((u + 1 + i : Nat) : Int) < (N : Int); omega, he⟩
 ·obtain ⟨a, b, ⟨⟩⟩ := x
  rintro ⟨h1, h2, h3, h4⟩
  simp only at h1 h2 h3 h4
  obtain ⟨u, rfl⟩ := Int.eq_ofNat_of_zero_le h1
  obtain ⟨v, rfl⟩ := Int.eq_ofNat_of_zero_le (show 0 ≤ b by omega)
  refine ⟨u, by omega, v - (u + 1), ⟨by omega, ?_⟩, ?_⟩
  ·rw [show u + 1 + (v - (u + 1)) = v by omega]; exact h4
  ·rw [show u + 1 + (v - (u + 1)) = v by omega]
def aheadE (p x : Edge) : Prop := p.1 < x.1 ∨ (p.1 = x.1 ∧ p.2.1 < x.2.1)
theorem plainL_pair (N : Nat) (l : List Edge) : (plainL N l).Pairwise aheadE := by
 unfold plainL
 rw [List.pairwise_flatMap]
 refine ⟨fun u _ => ?_, ?_⟩
 ·unfold rowL
  rw [List.pairwise_map]
  refine List.Pairwise.filter _ ?_
  refine List.pairwise_lt_range.imp fun h => ?_
  exact .inr ⟨rfl, by show ((u + 1 + _ : Nat) : Int) < ((u + 1 + _ : Nat) : Int); omega⟩
 ·refine List.pairwise_lt_range.imp fun h x hx y hy => ?_
  unfold rowL at hx hy
  simp only [List.mem_map] at hx hy
  obtain ⟨i, _, rfl⟩ := hx
  obtain ⟨j, _, rfl⟩ := hy
  exact .inl (by simp only; omega)
theorem mem_comeL (N : Nat) (ts : List Tie) (l : List Edge) (x : Edge) : x ∈ comeL N ts l ↔ (0 ≤ x.1 ∧ x.1 < x.2.1 ∧ x.2.1 < (N : Int) ∧ hasE l x.1 x.2.1) ∧ ¬ x ∈ ts.map ed := by
 unfold comeL
 rw [List.mem_filter, mem_plainL]
 simp
theorem comeL_pair (N : Nat) (ts : List Tie) (l : List Edge) : (comeL N ts l).Pairwise aheadE := (plainL_pair N l).filter _
end Go.Pev.Pl
end
section
namespace Go.Pev.Pl
open Tok
instance (n v : Int) : Decidable (In n v) := inferInstanceAs (Decidable (_ ∧ _))
instance (n : Int) : Decidable (Sz n) := inferInstanceAs (Decidable (_ ∧ _))
end Go.Pev.Pl
end
section
namespace Go.Pev.Pl
instance (xs : List Int) : Decidable (Rt xs) := inferInstanceAs (Decidable (_ ∧ _ ∧ _))
end Go.Pev.Pl
end
section
namespace Go.Pev.Pl
open Tok
noncomputable instance (n : Int) (xs : List Int) : Decidable (TI n xs) := Classical.propDecidable _
end Go.Pev.Pl
end
section
namespace Go.Pev.Pl
open Tok
end Go.Pev.Pl
end
section
namespace Go.Pev.Pl
open Tok
end Go.Pev.Pl
end
section
namespace Go.Pev.Pl
open Tok
noncomputable instance (n : Int) (rings : List (List Int)) : Decidable (RF n rings) := Classical.propDecidable _
noncomputable instance (n : Int) (xs : List Int) : Decidable (RG n xs) := Classical.propDecidable _
end Go.Pev.Pl
end
end
section
section
namespace Go.Pev.Pl
open Tok
end Go.Pev.Pl
end
section
namespace Go.Pev.Pl
open Tok
end Go.Pev.Pl
end
section
namespace Go.Pev.Pl
open Tok
end Go.Pev.Pl
end
section
namespace Go.Pev.Pl
open Tok
theorem tof_val (n : Int) (rings : List (List Int)) (v : Int) (hD : Dom rings) : tof ((n, (rings, ())), v, ()) = some (if RF n rings ∧ In n v then plc rings v else -1, ()) := by
 rw [tof_eq, tof_d]
 simp only [tin_val, tright_val n rings hD.1 hD.2, tplace_val n rings v hD.1 (fun l hl => (hD.2 l hl).1)]
 by_cases h1 : In n v
 ·by_cases h2 : RF n rings <;> simp [h1, h2]
 ·simp [h1]
end Go.Pev.Pl
end
section
namespace Go.Pev.Pl
open Go.RowKit Tok
end Go.Pev.Pl
end
section
namespace Go.Pev.Pl
open Tok
end Go.Pev.Pl
end
section
namespace Go.Pev.Pl
open Tok
set_option linter.unusedSimpArgs false
end Go.Pev.Pl
end
section
namespace Go.Pev.Pl
open Tok
set_option linter.unusedSimpArgs false
def sel (l : List Edge) (bs : List Bool) : List Edge := ((l.zip bs).filter fun p => p.2).map fun p => p.1
end Go.Pev.Pl
end
section
namespace Go.Pev.Pl
open Tok
instance (n v : Int) : Decidable (In n v) := inferInstanceAs (Decidable (_ ∧ _))
instance (n : Int) : Decidable (Sz n) := inferInstanceAs (Decidable (_ ∧ _))
end Go.Pev.Pl
end
section
namespace Go.Pev.Pl
instance (xs : List Int) : Decidable (Rt xs) := inferInstanceAs (Decidable (_ ∧ _ ∧ _))
end Go.Pev.Pl
end
section
namespace Go.Pev.Pl
open Tok
noncomputable instance (n : Int) (xs : List Int) : Decidable (TI n xs) := Classical.propDecidable _
end Go.Pev.Pl
end
section
namespace Go.Pev.Pl
open Tok
noncomputable instance (n : Int) (rings : List (List Int)) : Decidable (RF n rings) := Classical.propDecidable _
noncomputable instance (n : Int) (xs : List Int) : Decidable (RG n xs) := Classical.propDecidable _
end Go.Pev.Pl
end
section
namespace Go.Pev.Pl
open Tok
end Go.Pev.Pl
end
section
namespace Go.Pev.Pl
open Tok
set_option linter.unusedSimpArgs false
end Go.Pev.Pl
end
section
namespace Go.Pev.Pl
open Tok
set_option linter.unusedSimpArgs false
end Go.Pev.Pl
end
section
namespace Go.Pev.Pl
open Tok
set_option linter.unusedSimpArgs false
set_option maxRecDepth 100000
end Go.Pev.Pl
end
section
namespace Go.Pev.Pl
open Tok
theorem right_count {N : Nat} (h1 : 1 ≤ N) (hN : N ≤ 64) {ts : List Tie} (hs : ts.length ≤ 400) (ho : oks N ts) {out : List Int} (hc : ClOK (N : Int) (trs ts ts.length) out) :
  right21 (((N : Int), (ts, ())), ()) = some (decide ((cnt out N : Int) = (N : Int) - (trs ts ts.length).length), ()) := by
 have R := right21_loop N hN ts hs
 rw [if_pos ho] at R
 have hin := trs_in hN ho
 have hlen := trs_len ts ts.length
 obtain ⟨o2, e2, c2⟩ := classes19_val (N : Int) (trs ts ts.length) ⟨by omega, by omega⟩ (by omega) hin
 have := ClOK.unique h1 hN hc c2
 subst this
 have hol : out.length = N := by have := hc.len; omega
 rw [right21_eq, right21_d]
 simp only [ilt_eq, dlen_l]
 rw [decide_eq_false (show ¬ (N : Int) < 1 by omega), decide_eq_false (show ¬ 64 < (N : Int) by omega), decide_eq_false (show ¬ 400 < (ts.length : Int) by omega)]
 simp only [R, e2, right21_count N hN _ _ out hol, ieq_dec]
 rw [wrap_in (by omega)]
end Go.Pev.Pl
end
section
namespace Go.Pev.Pl
open Tok
set_option linter.unusedSimpArgs false
theorem Con.perm {l l' : List Edge} (h : ∀ e, e ∈ l ↔ e ∈ l') {a b : Int} : Con l a b ↔ Con l' a b :=
 ⟨fun c => c.mono fun e he => ⟨e, (h e).1 he, .inl ⟨rfl, rfl⟩⟩, fun c => c.mono fun e he => ⟨e, (h e).2 he, .inl ⟨rfl, rfl⟩⟩⟩
theorem ClOK.congr {n : Int} {l l' : List Edge} {out : List Int} (h : ∀ a b, Con l a b ↔ Con l' a b) (hc : ClOK n l out) : ClOK n l' out :=
 ⟨hc.len, fun a b ia ib => (hc.same a b ia ib).trans (h a b), hc.isin, fun a ia => (h a _).1 (hc.con a ia), fun a b ia ib c => hc.least a b ia ib ((h a b).2 c)⟩
end Go.Pev.Pl
end
section
namespace Go.Pev.Pl
open Tok
set_option linter.unusedSimpArgs false
def tieOf (x : Edge) (b : Bool) : Tie := (x.1, x.2.1, 0, b, ())
def addT (ts : List Tie) (xs : List Edge) (bs : List Bool) (k : Nat) : List Tie := (List.range k).foldl (fun a i => putT a (tieOf (xs.getD i (0, 0, ())) (bs.getD i false))) ts
end Go.Pev.Pl
end
section
namespace Go.Pev.Pl
open Tok
set_option linter.unusedSimpArgs false
def newT (xs : List Edge) (bs : List Bool) (k : Nat) : List Tie := (List.range k).map fun i => tieOf (xs.getD i (0, 0, ())) (bs.getD i false)
theorem addT_succ (ts : List Tie) (xs : List Edge) (bs : List Bool) (k : Nat) : addT ts xs bs (k + 1) = putT (addT ts xs bs k) (tieOf (xs.getD k (0, 0, ())) (bs.getD k false)) := by
 unfold addT
 rw [List.range_succ, List.foldl_append]
 rfl
theorem addT_perm (ts : List Tie) (xs : List Edge) (bs : List Bool) : ∀ k, (addT ts xs bs k).Perm (ts ++ newT xs bs k) := by
 intro k
 induction k with
 | zero => simp [addT, newT]
 | succ k ih =>
  rw [addT_succ]
  refine (putT_perm _ _).trans ?_
  unfold newT at *
  rw [List.range_succ, List.map_append, ← List.append_assoc]
  refine (List.Perm.cons _ ih).trans ?_
  exact (List.perm_append_singleton _ _).symm
end Go.Pev.Pl
end
section
namespace Go.Pev.Pl
open Tok
set_option linter.unusedSimpArgs false
theorem addT_oks {N : Nat} {ts : List Tie} (h : oks N ts) (hv0 : 0 ≤ topV N) {xs : List Edge} (bs : List Bool) (hp : xs.Pairwise aheadE) (hx : ∀ e ∈ xs, 0 ≤ e.1 ∧ e.1 < e.2.1 ∧ e.2.1 < (N : Int)) (hn : ∀ e ∈ xs, ¬ e ∈ ts.map ed) : oks N (addT ts xs bs xs.length) := by
 rw [oks_iff] at h ⊢
 obtain ⟨h1, h2⟩ := h
 have hget : ∀ i (hi : i < xs.length), xs.getD i (0, 0, ()) = xs[i] := fun i hi => by
  simp only [List.getD_eq_getElem?_getD, List.getElem?_eq_getElem hi, Option.getD_some]
 have hmem : ∀ k, k ≤ xs.length → ∀ t ∈ addT ts xs bs k, t ∈ ts ∨ ∃ i, i < k ∧ t = tieOf (xs.getD i (0, 0, ())) (bs.getD i false) := by
  intro k hk t ht
  rcases List.mem_append.1 ((addT_perm ts xs bs k).mem_iff.1 ht) with h | h
  ·exact .inl h
  ·unfold newT at h
   obtain ⟨i, hi, rfl⟩ := List.mem_map.1 h
   exact .inr ⟨i, by simpa using hi, rfl⟩
 refine ⟨fun t ht => ?_, ?_⟩
 ·rcases hmem _ (Nat.le_refl _) t ht with h | ⟨i, hi, rfl⟩
  ·exact h1 t h
  ·rw [hget i hi]
   obtain ⟨q1, q2, q3⟩ := hx xs[i] (List.getElem_mem hi)
   exact ⟨q1, q2, q3, by show (0 : Int) ≤ 0; omega, hv0⟩
 ·have key : ∀ k, k ≤ xs.length → (addT ts xs bs k).Pairwise ahead := by
   intro k
   induction k with
   | zero => intro _; exact h2
   | succ k ih =>
    intro hk
    rw [addT_succ]
    refine putT_pair (ih (by omega)) fun t ht => ?_
    rw [hget k (by omega)]
    rintro ⟨e1, e2⟩
    rcases hmem k (by omega) t ht with h | ⟨i, hi, rfl⟩
    ·refine hn xs[k] (List.getElem_mem (by omega)) (List.mem_map.2 ⟨t, h, ?_⟩)
     unfold ed
     rw [e1, e2]
     rfl
    ·rw [hget i (by omega)] at e1 e2
     have := (List.pairwise_iff_getElem.1 hp) i k (by omega) (by omega) hi
     unfold aheadE at this
     simp only [tieOf] at e1 e2
     omega
  exact key _ (Nat.le_refl _)
end Go.Pev.Pl
end
section
namespace Go.Pev.Pl
open Tok
set_option linter.unusedSimpArgs false
theorem trs_take (ts : List Tie) : ∀ k, k ≤ ts.length → trs ts k = ((ts.take k).filter fun t => t.2.2.2.1).map ed := by
 intro k
 induction k with
 | zero => intro _; simp [trs]
 | succ k ih =>
  intro hk
  have hk' : k < ts.length := by omega
  rw [trs_succ, ih (by omega), List.take_succ_eq_append_getElem hk', List.filter_append, List.map_append]
  simp only [List.getD_eq_getElem?_getD, List.getElem?_eq_getElem hk', Option.getD_some]
  cases h : ts[k].2.2.2.1
  ·simp [h]
  ·simp [h]
theorem trs_all (ts : List Tie) : trs ts ts.length = (ts.filter fun t => t.2.2.2.1).map ed := by
 rw [trs_take ts _ (Nat.le_refl _), List.take_length]
end Go.Pev.Pl
end
section
namespace Go.Pev.Pl
open Tok
set_option linter.unusedSimpArgs false
theorem newT_zip {xs : List Edge} {bs : List Bool} (h : bs.length = xs.length) : newT xs bs xs.length = (xs.zip bs).map fun p => tieOf p.1 p.2 := by
 unfold newT
 apply List.ext_getElem
 ·simp [h]
 ·intro i h1 h2
  have hi : i < xs.length := by simpa using h1
  simp [hi, show i < bs.length by omega]
theorem addT_trs (ts : List Tie) {xs : List Edge} {bs : List Bool} (h : bs.length = xs.length) : (trs (addT ts xs bs xs.length) (addT ts xs bs xs.length).length).Perm (trs ts ts.length ++ sel xs bs) := by
 rw [trs_all, trs_all]
 refine (((addT_perm ts xs bs xs.length).filter _).map ed).trans ?_
 rw [List.filter_append, List.map_append, newT_zip h, List.filter_map, List.map_map]
 exact List.Perm.refl _
theorem addT_len (ts : List Tie) (xs : List Edge) (bs : List Bool) : ∀ k, (addT ts xs bs k).length = ts.length + k := by
 intro k
 rw [(addT_perm ts xs bs k).length_eq]
 simp [newT]
end Go.Pev.Pl
end
end
section
section
namespace Go.Pev.Pl
open Tok
set_option linter.unusedSimpArgs false
set_option maxRecDepth 100000
theorem comeL_in {N : Nat} (hN : N ≤ 64) (ts : List Tie) (l : List Edge) : ∀ e ∈ comeL N ts l, In (N : Int) e.1 ∧ In (N : Int) e.2.1 := by
 intro e he
 obtain ⟨⟨a, b, c, _⟩, _⟩ := (mem_comeL N ts l e).1 he
 exact ⟨⟨by omega, by omega, a, by omega⟩, ⟨by omega, by omega, by omega, c⟩⟩
end Go.Pev.Pl
end
section
namespace Go.Pev.Pl
open Tok
set_option linter.unusedSimpArgs false
set_option maxRecDepth 100000
theorem in_of {N : Nat} (h1 : 1 ≤ N) (hN : N ≤ 64) {a : Int} (h : 0 ≤ a ∧ a < (N : Int)) : In (N : Int) a := ⟨by omega, by omega, h.1, h.2⟩
theorem inE_in {N : Nat} {e : Edge} (h : In (N : Int) e.1 ∧ In (N : Int) e.2.1) : InE N e := ⟨⟨h.1.2.2.1, h.1.2.2.2⟩, ⟨h.2.2.2.1, h.2.2.2.2⟩⟩
theorem cnt_cc {N : Nat} (h1 : 1 ≤ N) (hN : N ≤ 64) {l : List Edge} {out : List Int} (hc : ClOK (N : Int) l out) : cnt out N = cc N l := by
 unfold cnt cc
 rw [List.countP_eq_length_filter]
 congr 1
 refine List.filter_congr fun k hk => ?_
 have hk : k < N := by simpa using hk
 have ik := in_of h1 hN (a := (k : Int)) ⟨by omega, by omega⟩
 have hg : out.getD k 0 = cl out (k : Int) := by unfold cl; rw [Int.toNat_natCast]
 rw [hg, Bool.eq_iff_iff, decide_eq_true_iff, lowB_iff]
 constructor
 ·intro h j hj hcn
  have := hc.least (k : Int) (j : Int) ik (in_of h1 hN ⟨by omega, by omega⟩) hcn.symm
  omega
 ·intro h
  have a1 := hc.isin _ ik
  have a2 := hc.con _ ik
  have a3 := hc.least (k : Int) (k : Int) ik ik (.refl _)
  obtain ⟨m, hm⟩ := Int.eq_ofNat_of_zero_le a1.2.2.1
  rw [hm] at a2 a3 ⊢
  by_cases hlt : m < k
  ·exact absurd a2.symm (h m hlt)
  ·omega
theorem FC.count {N : Nat} (h1 : 1 ≤ N) (hN : N ≤ 64) {rings : List (List Int)} {l : List Edge} (h : FC (N : Int) rings l) (hs : l.length < 1073741824) (ha : ∀ e ∈ l, In (N : Int) e.1 ∧ In (N : Int) e.2.1) : rings.length = cc N l := by
 obtain ⟨o, _, c⟩ := classes19_val (N : Int) l ⟨by omega, by omega⟩ hs ha
 rw [rings_count h c, cnt_cc h1 hN c]
theorem FC.congr {n : Int} {rings : List (List Int)} {l l' : List Edge} (h : FC n rings l) (hm : ∀ e ∈ l, e ∈ l') (hc : ∀ e ∈ l', Con l e.1 e.2.1) : FC n rings l' :=
 ⟨h.fr, fun a b ia ib => (h.sam a b ia ib).trans ⟨fun c => c.sub hm, fun c => c.cut hc⟩, fun A hA u v ho hu => by
  obtain ⟨e, he, q⟩ := h.arcs A hA u v ho hu
  exact ⟨e, hm e he, q⟩⟩
theorem right_fo {N : Nat} (h1 : 1 ≤ N) (hN : N ≤ 64) {ts : List Tie} (hs : ts.length ≤ 400) (ho : oks N ts) : right21 (((N : Int), (ts, ())), ()) = some (true, ()) ↔ Fo N (trs ts ts.length) := by
 have hlen := trs_len ts ts.length
 obtain ⟨o, _, c⟩ := classes19_val (N : Int) (trs ts ts.length) ⟨by omega, by omega⟩ (by omega) (trs_in hN ho)
 rw [right_count h1 hN hs ho c, cnt_cc h1 hN c]
 unfold Fo
 constructor
 ·intro h
  have : decide ((cc N (trs ts ts.length) : Int) = (N : Int) - (trs ts ts.length).length) = true := by injection h with h; injection h
  have := of_decide_eq_true this
  omega
 ·intro h
  rw [decide_eq_true (by omega)]
end Go.Pev.Pl
end
section
namespace Go.Pev.Pl
open Tok
set_option linter.unusedSimpArgs false
set_option maxRecDepth 100000
end Go.Pev.Pl
end
section
namespace Go.Pev.Pl.SE
open Go.Sort
def ok (_ : Int × Int × Unit) : Prop := True
def okz : Int × Int × Unit := (0, 0, ())
theorem okz_ok : ok okz := trivial
def lt (x y : Int × Int × Unit) : Bool := decide (x.1 < y.1 ∨ (x.1 = y.1 ∧ x.2.1 < y.2.1))
theorem swo : SWO lt := ⟨fun x => by simp [lt], fun x y z h1 h2 => by simp only [lt, decide_eq_true_eq] at *; omega, fun x y z h1 h2 => by simp only [lt, decide_eq_false_iff_not] at *; omega⟩
end Go.Pev.Pl.SE
end
section
namespace Go.Pev.Pl.ST
open Go.Sort
def ok (_ : Int × Int × Int × Bool × Unit) : Prop := True
def okz : Int × Int × Int × Bool × Unit := (0, 0, 0, false, ())
theorem okz_ok : ok okz := trivial
def lt (x y : Int × Int × Int × Bool × Unit) : Bool := decide (x.1 < y.1 ∨ (x.1 = y.1 ∧ x.2.1 < y.2.1))
theorem swo : SWO lt := ⟨fun x => by simp [lt], fun x y z h1 h2 => by simp only [lt, decide_eq_true_eq] at *; omega, fun x y z h1 h2 => by simp only [lt, decide_eq_false_iff_not] at *; omega⟩
end Go.Pev.Pl.ST
end
section
namespace Go.Pev.Pl
open Tok
set_option linter.unusedSimpArgs false
set_option maxRecDepth 100000
section
variable {α β : Type} [DecidableEq α]
end
end Go.Pev.Pl
end
section
namespace Go.Pev.Pl
open Tok
set_option linter.unusedSimpArgs false
set_option maxRecDepth 100000
theorem sel_gfl : ∀ (xs b : List Edge), sel xs (gfl b xs) = gsel b xs := by
 intro xs
 induction xs with
 | nil => intro b; rfl
 | cons x xs ih =>
  intro b
  have := ih (b ++ [x])
  unfold sel at *
  rw [gfl, gsel, List.zip_cons_cons, List.filter_cons]
  by_cases h : conB b x.1 x.2.1 = true
  ·simp [h, this]
  ·simp [h, this]
theorem Fo_gsel {N : Nat} {b xs : List Edge} (h : Fo N b) (hx : ∀ e ∈ xs, InE N e) : Fo N (b ++ gsel b xs) := by
 have h1 := cc_append xs b hx
 have h2 : cc N (b ++ xs) = cc N (b ++ gsel b xs) := cc_con fun a c => con_gsel xs b
 unfold Fo at *
 rw [List.length_append]
 omega
theorem topV_nonneg {N : Nat} (hN : N ≤ 64) : 0 ≤ topV N := by
 have : ((List.range 65).all fun k => decide (0 ≤ topV k)) = true := by kernel_rfl
 exact of_decide_eq_true (List.all_eq_true.1 this N (by simp; omega))
noncomputable def grown (N : Nat) (ts : List Tie) (l : List Edge) : List Tie := addT ts (comeL N ts l) (gfl (trs ts ts.length) (comeL N ts l)) (comeL N ts l).length
theorem grown_len (N : Nat) (ts : List Tie) (l : List Edge) : (grown N ts l).length = ts.length + (comeL N ts l).length := addT_len ..
theorem grown_trs (N : Nat) (ts : List Tie) (l : List Edge) : (trs (grown N ts l) (grown N ts l).length).Perm (trs ts ts.length ++ gsel (trs ts ts.length) (comeL N ts l)) := by
 have := addT_trs ts (xs := comeL N ts l) (bs := gfl (trs ts ts.length) (comeL N ts l)) (gfl_len _ _)
 rw [sel_gfl] at this
 exact this
theorem grown_oks {N : Nat} (hN : N ≤ 64) {ts : List Tie} (ho : oks N ts) (l : List Edge) : oks N (grown N ts l) :=
 addT_oks ho (topV_nonneg hN) _ (comeL_pair N ts l) (fun e he => by
  obtain ⟨⟨a, b, c, _⟩, _⟩ := (mem_comeL N ts l e).1 he
  exact ⟨a, b, c⟩) (fun e he => ((mem_comeL N ts l e).1 he).2)
theorem comeL_inE {N : Nat} (hN : N ≤ 64) (ts : List Tie) (l : List Edge) : ∀ e ∈ comeL N ts l, InE N e := fun e he => inE_in (comeL_in hN ts l e he)
theorem grown_fo {N : Nat} (hN : N ≤ 64) {ts : List Tie} (h : Fo N (trs ts ts.length)) (l : List Edge) : Fo N (trs (grown N ts l) (grown N ts l).length) :=
 (Fo_gsel h (comeL_inE hN ts l)).perm (grown_trs N ts l).symm
structure RG2 (N : Nat) (ts : List Tie) : Prop where
 h1 : 1 ≤ N
 hN : N ≤ 64
 ht : ts.length ≤ 400
 oks : oks N ts
 fo : Fo N (trs ts ts.length)
theorem RG2.r21 {N : Nat} {ts : List Tie} (h : RG2 N ts) : right21 (((N : Int), (ts, ())), ()) = some (true, ()) := (right_fo h.h1 h.hN h.ht h.oks).2 h.fo
theorem RG2.lr {N : Nat} {ts : List Tie} (h : RG2 N ts) : lright (((N : Int), (ts, ())), ()) = some (true, ()) := by
 obtain ⟨b, h1, h2, _⟩ := both_right (N : Int) ts (by have := h.ht; omega)
 rw [h.r21] at h1
 cases h1
 exact h2
theorem rg2_cases (n : Int) (ts : List Tie) (hl : ts.length < 4611686018427387904) : (right21 ((n, (ts, ())), ()) = some (false, ()) ∧ lright ((n, (ts, ())), ()) = some (false, ())) ∨ ∃ N : Nat, n = (N : Int) ∧ RG2 N ts := by
 obtain ⟨b, h1, h2, h3⟩ := both_right n ts hl
 cases b
 ·exact .inl ⟨h1, h2⟩
 ·obtain ⟨N, rfl, q1, q2, q3, q4⟩ := h3 rfl
  exact .inr ⟨N, rfl, q1, q2, q3, q4, (right_fo q1 q2 q3 q4).1 h1⟩
theorem RG2.inE {N : Nat} {ts : List Tie} (h : RG2 N ts) : ∀ e ∈ ts.map ed, In (N : Int) e.1 ∧ In (N : Int) e.2.1 := eds_in h.hN h.oks
theorem RG2.grown {N : Nat} {ts : List Tie} (h : RG2 N ts) {l : List Edge} (hf : ts.length + (comeL N ts l).length ≤ 400) : RG2 N (grown N ts l) :=
 ⟨h.h1, h.hN, by rw [grown_len]; exact hf, grown_oks h.hN h.oks l, grown_fo h.hN h.fo l⟩
theorem scount_val {N : Nat} (h1 : 1 ≤ N) (hN : N ≤ 64) (l : List Edge) (hs : l.length < 1073741824) (ha : ∀ e ∈ l, In (N : Int) e.1 ∧ In (N : Int) e.2.1) : scount ((N : Int), l, ()) = some ((cc N l : Int), 0, ()) := by
 obtain ⟨out, e0, hc⟩ := sclasses_val (N : Int) l ⟨by omega, by omega⟩ hs ha
 have ho : out.length = N := by have := hc.len; omega
 rw [scount_eq, scount_d]
 simp only [e0]
 have e := walkL (step := scount_s0) (fun i (a : Nat) => ((0 : Int), (a : Int), out, dlen out, (i : Int), ())) (List.range N) (fun k a => .inl (if out.getD k 0 = (k : Int) then a + 1 else a)) (fun a => .inl ((0 : Int), (a : Int), ())) (fun i a => a ≤ i) (by simp; omega)
  (fun i x a hi hx ha => by
   refine ⟨fun m' h' => ?_, fun r h' => (by cases h')⟩
   cases h'
   have := range_get' hx
   subst this
   rw [List.length_range] at hi
   constructor
   ·rw [scount_s0, dlen_l, ho, ilt_nat, decide_eq_true hi]
    simp only [idx_l 0 (show x < out.length by omega), dget_l, ieq_dec]
    rw [wrap_add1 (by omega), wrap_add1 (by omega)]
    by_cases h : out.getD x 0 = (x : Int)
    ·rw [decide_eq_true h, if_pos h]
    ·rw [decide_eq_false h, if_neg h]
   ·split <;> omega)
  (fun a _ => by rw [scount_s0, List.length_range, dlen_l, ho, ilt_nat, decide_eq_false (by omega)]) 0 (Nat.le_refl _)
 have e' : iterL scount_s0 many ((0 : Int), (0 : Int), out, dlen out, (0 : Int), ()) = _ := e
 simp only [e']
 rw [walk_fold (fun k a => if out.getD k 0 = (k : Int) then a + 1 else a), foldl_cnt (fun k => out.getD k 0 = (k : Int)), Nat.zero_add]
 have := cnt_cc h1 hN hc
 unfold cnt at this
 rw [this]
end Go.Pev.Pl
end
section
namespace Go.Pev.Pl
open Tok
set_option linter.unusedSimpArgs false
set_option maxRecDepth 100000
end Go.Pev.Pl
end
end
section
namespace Go.Pev.Pl
open Tok
set_option linter.unusedSimpArgs false
set_option maxRecDepth 100000
theorem trk_snoc (ts : List Tie) (t : Tie) (k : Int) : trk (ts ++ [t]) k = trk ts k ++ if t.2.2.2.1 = true ∧ k ≤ t.2.2.1 then [ed t] else [] := by
 rw [trk_append]
 congr 1
 unfold trk
 rw [List.filter_cons]
 by_cases h : t.2.2.2.1 = true ∧ k ≤ t.2.2.1
 ·rw [if_pos h, h.1, decide_eq_true h.2]; rfl
 ·rw [if_neg h, if_neg]
  ·rfl
  ·rw [Bool.and_eq_true, decide_eq_true_eq]; exact h
theorem trk_fold (k : Int) : ∀ (ts a : List Tie) (acc : List Edge), acc = trk a k → ts.foldl (fun acc t => if t.2.2.2.1 = true ∧ k ≤ t.2.2.1 then acc ++ [ed t] else acc) acc = trk (a ++ ts) k := by
 intro ts
 induction ts with
 | nil => intro a acc h; simpa using h
 | cons t ts ih =>
  intro a acc h
  rw [List.foldl_cons, ih (a ++ [t])]
  ·simp
  ·rw [trk_snoc, ← h]
   split <;> simp
theorem trk_len (ts : List Tie) (k : Int) : (trk ts k).length ≤ ts.length := by
 unfold trk
 rw [List.length_map]
 exact List.length_filter_le _ _
theorem trk_sub (ts : List Tie) (k : Int) : ∀ e ∈ trk ts k, e ∈ ts.map ed := by
 intro e he
 obtain ⟨t, h1, _, _, rfl⟩ := mem_trk.1 he
 exact List.mem_map.2 ⟨t, h1, rfl⟩
theorem ltrees_k (n : Int) (ts : List Tie) (hs : ts.length ≤ 400) (k : Int) : ltrees ((n, (ts, ())), k, ()) = some (trk ts k, ()) := by
 rw [ltrees_eq, ltrees_d]
 have e := walkL (step := ltrees_s0) (fun i (a : List Edge) => (k, a, ts, dlen ts, (i : Int), ())) ts (fun t a => .inl (if t.2.2.2.1 = true ∧ k ≤ t.2.2.1 then a ++ [ed t] else a)) (fun a => .inl (a, ())) (fun i a => a.length ≤ i) (by omega)
  (fun i x a hi hx ha => by
   refine ⟨fun m' h' => ?_, fun r h' => (by cases h')⟩
   cases h'
   constructor
   ·rw [ltrees_s0, dlen_l, ilt_nat, decide_eq_true hi]
    simp only [idx_some hx, dlen_l]
    rw [wrap_add1 (by omega), ile_eq, fits_l (by simp only [List.length_cons, List.length_nil]; omega)]
    cases h4 : x.2.2.2.1
    ·simp
    ·by_cases h5 : k ≤ x.2.2.1
     ·simp [h5, ed, dapp]
     ·simp [h5]
   ·split
    ·rw [List.length_append]; simp; omega
    ·omega)
  (fun a _ => by rw [ltrees_s0, dlen_l, ilt_nat, decide_eq_false (by omega)]) [] (Nat.le_refl _)
 have e' : iterL ltrees_s0 many (k, [], ts, dlen ts, (0 : Int), ()) = _ := e
 simp only [e']
 rw [walk_fold (fun (t : Tie) (a : List Edge) => if t.2.2.2.1 = true ∧ k ≤ t.2.2.1 then a ++ [ed t] else a), trk_fold k ts [] [] rfl]
 rfl
theorem trk_zero {N : Nat} {ts : List Tie} (h : oks N ts) : trs ts ts.length = trk ts 0 := by
 rw [trs_all]
 unfold trk
 congr 1
 refine List.filter_congr fun t ht => ?_
 have := ((oks_iff N ts).1 h).1 t ht
 rw [decide_eq_true this.2.2.2.1, Bool.and_true]
theorem RG2.fo0 {N : Nat} {ts : List Tie} (h : RG2 N ts) : Fo N (trk ts 0) := by rw [← trk_zero h.oks]; exact h.fo
theorem RG2.inK {N : Nat} {ts : List Tie} (h : RG2 N ts) (k : Int) : ∀ e ∈ trk ts k, In (N : Int) e.1 ∧ In (N : Int) e.2.1 := fun e he => h.inE e (trk_sub ts k e he)
theorem RG2.klen {N : Nat} {ts : List Tie} (h : RG2 N ts) (k : Int) : (trk ts k).length ≤ 400 := Nat.le_trans (trk_len ts k) h.ht
theorem RG2.forest {N : Nat} {ts : List Tie} (h : RG2 N ts) (k : Int) : ∃ zs, lforest (((N : Int), (ts, ())), k, ()) = some (((N : Int), (zs, ())), 0, ()) ∧ FC (N : Int) zs (trk ts k) := by
 have hl := h.klen k
 have h1 := h.h1
 have hN := h.hN
 rcases (fof_val (N : Int) (trk ts k) ⟨by omega, by omega⟩ (by omega)).symm with ⟨hno, _⟩ | ⟨_, zs, e, hF⟩
 ·exact absurd (h.inK k) hno
 refine ⟨zs, ?_, hF⟩
 rw [lforest_eq, lforest_d]
 simp only [h.lr, Bool.not_true, ltrees_k (N : Int) ts h.ht k, e]
theorem RG2.classes {N : Nat} {ts : List Tie} (h : RG2 N ts) (k : Int) : ∃ out, classes19 ((N : Int), trk ts k, ()) = some (out, ()) ∧ ClOK (N : Int) (trk ts k) out := by
 have := h.klen k
 have h1 := h.h1
 have hN := h.hN
 exact classes19_val (N : Int) (trk ts k) ⟨by omega, by omega⟩ (by omega) (h.inK k)
theorem fconn_con {n : Int} {rings : List (List Int)} {l : List Edge} (h : FC n rings l) {u v : Int} (iu : In n u) (iv : In n v) : fconn ((n, (rings, ())), u, v, ()) = some (conB l u v, 0, ()) := by
 have hD := h.fr.dom
 have hRF := RF_iff.2 h.fr
 have ht : fthere ((n, (rings, ())), [u, v], ()) = some (0, ()) := by
  rw [fthere_val n rings _ hD (by simp), askE]
  simp [hRF, iu, iv]
 rw [fconn_eq, fconn_d]
 simp only [ht, ieq_self', Bool.not_true, tof_val n rings _ hD, hRF, iu, iv, and_self, if_true, ieq_dec]
 have : decide (plc rings u = plc rings v) = conB l u v := by
  rw [Bool.eq_iff_iff, decide_eq_true_iff, conB_iff, h.fr.same_plc iu iv]
  exact h.sam u v iu iv
 rw [this]
theorem fsize_csz {N : Nat} {rings : List (List Int)} {l : List Edge} (h : FC (N : Int) rings l) {v : Int} (iv : In (N : Int) v) : fsize (((N : Int), (rings, ())), v, ()) = some ((csz N l v : Int), 0, ()) := by
 obtain ⟨i, A, _, hi, hv, _⟩ := plc_in (h.fr.cov v iv)
 have hD := h.fr.dom
 have hRF := RF_iff.2 h.fr
 have mA := List.mem_of_getElem? hi
 have gA := h.fr.rg A mA
 have hl := gA.1.1
 have hll := lows_len gA
 have ht : fthere (((N : Int), (rings, ())), [v], ()) = some (0, ()) := by
  rw [fthere_val (N : Int) rings _ hD (by simp), askE]
  simp [hRF, iv]
 have hvl : (verts (N : Int) A).length = csz N l v := by
  unfold verts csz
  rw [Int.toNat_natCast, ← List.countP_eq_length_filter, List.countP_map]
  refine List.countP_congr fun w hw => ?_
  have hw : w < N := by simpa using hw
  have iv2 := iv
  obtain ⟨b1, b2, _, _⟩ := iv2
  have iw : In (N : Int) (w : Int) := ⟨b1, b2, by omega, by omega⟩
  rw [conB_iff, ← h.sam v w iv iw]
  simp only [Function.comp, decide_eq_true_eq]
  constructor
  ·intro hwA; exact ⟨A, mA, hv, hwA⟩
  ·rintro ⟨K, hK, k1, k2⟩
   rw [h.fr.one mA hK iv.2.2.2 hv k1]; exact k2
 rw [fsize_eq, fsize_d]
 simp only [ht, ieq_self', Bool.not_true, tof_val (N : Int) rings v hD, hRF, iv, and_self, if_true, h.fr.plc_eq hi iv.2.2.2 hv, idx_some hi, dlen_l, quo_eq, quoR]
 rw [wrap_in (n := (A.length : Int) + 2) (by omega), if_neg (by omega)]
 have : (((A.length : Int) + 2).tdiv 3) = ((verts (N : Int) A).length : Int) := by
  rw [Int.tdiv_eq_ediv_of_nonneg (by omega)]
  omega
 rw [this, wrap_in (by omega), hvl]
end Go.Pev.Pl
end
section
namespace Go.Pev.Pl
open Tok
set_option linter.unusedSimpArgs false
set_option maxRecDepth 100000
noncomputable def propB (p : Prop) : Bool := @decide p (Classical.propDecidable _)
theorem propB_iff (p : Prop) : propB p = true ↔ p := by
 unfold propB
 exact @decide_eq_true_iff _ (Classical.propDecidable _)
theorem propB_eq {p : Prop} {b : Bool} (h : b = true ↔ p) : b = propB p := by rw [Bool.eq_iff_iff, propB_iff]; exact h
theorem gsel_nil : ∀ (xs b : List Edge), gsel b xs = [] → ∀ e ∈ xs, Con b e.1 e.2.1 := by
 intro xs
 induction xs with
 | nil => intro b _ e he; cases he
 | cons x xs ih =>
  intro b h e he
  rw [gsel] at h
  by_cases hc : conB b x.1 x.2.1 = true
  ·rw [if_pos hc] at h
   rw [conB_iff] at hc
   rcases List.mem_cons.1 he with rfl | he
   ·exact hc
   ·exact (con_snoc_of hc).1 (ih _ h e he)
  ·rw [if_neg hc] at h; cases h
def SpanP (ts : List Tie) : Prop := ∀ e ∈ ts.map ed, Con (trk ts 0) e.1 e.2.1
def LieP (ts : List Tie) : Prop := ∀ t ∈ ts, t.2.2.2.1 = false → Con (trk ts t.2.2.1) t.1 t.2.1
def HalvP (N : Nat) (ts : List Tie) : Prop := ∀ k : Nat, (k : Int) ≤ topV N → ∀ v : Nat, v < N → csz N (trk ts k) v ≤ max 1 (N / 2 ^ k)
theorem span_cc {N : Nat} {ts : List Tie} (h : RG2 N ts) : cc N (trk ts 0) = cc N (ts.map ed) ↔ SpanP ts := by
 have hi : ∀ e ∈ ts.map ed, InE N e := fun e he => inE_in (h.inE e he)
 constructor
 ·intro hc
  have h1 := cc_append (N := N) (ts.map ed) (trk ts 0) hi
  have h2 : cc N (trk ts 0 ++ ts.map ed) = cc N (ts.map ed) := cc_con fun a b => con_mem fun e => by
   rw [List.mem_append]
   exact ⟨fun q => q.elim (trk_sub ts 0 e) id, .inr⟩
  exact gsel_nil _ _ (List.eq_nil_of_length_eq_zero (by omega))
 ·intro hs
  exact cc_con fun a b => ⟨fun c => c.sub (trk_sub ts 0), fun c => c.cut hs⟩
theorem snSpan_val {N : Nat} {ts : List Tie} (h : RG2 N ts) : snSpan (((N : Int), (ts, ())), ()) = some (propB (SpanP ts), ()) := by
 obtain ⟨zs, e, hF⟩ := h.forest 0
 have ht := h.ht
 have hk := h.klen 0
 have hc := hF.count h.h1 h.hN (by omega) (h.inK 0)
 rw [snSpan_eq, snSpan_d]
 simp only [e, ieq_self', Bool.not_true, ledges_val (N : Int) ts h.ht h.lr, scount_val h.h1 h.hN (ts.map ed) (by rw [List.length_map]; omega) h.inE, dlen_l]
 rw [ieq_nat, hc]
 congr 2
 refine propB_eq ?_
 rw [decide_eq_true_iff]
 exact span_cc h
abbrev Forest := Int × List (List Int) × Unit
theorem snForests_val {N : Nat} {ts : List Tie} (h : RG2 N ts) : ∃ F : List Forest, snForests (((N : Int), (ts, ())), ()) = some (F, ()) ∧ (F.length : Int) = topV N + 1 ∧ ∀ k : Nat, k < F.length → ∃ zs, F[k]? = some ((N : Int), (zs, ())) ∧ FC (N : Int) zs (trk ts k) := by
 have hN := h.hN
 have ht0 := topV_nonneg h.hN
 obtain ⟨T, hT⟩ := Int.eq_ofNat_of_zero_le ht0
 have hT64 : T < 100 := by
  have : ((List.range 65).all fun k => decide (topV k < 100)) = true := by kernel_rfl
  have := of_decide_eq_true (List.all_eq_true.1 this N (by simp; omega))
  omega
 rw [snForests_eq, snForests_d]
 have key : ∀ (m i cnt : Nat) (F : List Forest), i + m = T + 1 → m < cnt → F.length = i → (∀ k : Nat, k < i → ∃ zs, F[k]? = some ((N : Int), (zs, ())) ∧ FC (N : Int) zs (trk ts k)) →
   ∃ F' : List Forest, iterO snForests_s0 cnt ((N : Int), ts, F, (i : Int), ()) = some (.inr (.inl (F', ()))) ∧ F'.length = T + 1 ∧ ∀ k : Nat, k < T + 1 → ∃ zs, F'[k]? = some ((N : Int), (zs, ())) ∧ FC (N : Int) zs (trk ts k) := by
  intro m
  induction m with
  | zero =>
   intro i cnt F hi hc hl hF
   obtain ⟨cnt, rfl⟩ : ∃ c, cnt = c + 1 := ⟨cnt - 1, by omega⟩
   refine ⟨F, ?_, by omega, fun k hk => hF k (by omega)⟩
   rw [iterO, snForests_s0]
   simp only [ltop_val N h.hN, hT]
   rw [ile_nat, decide_eq_false (by omega)]
  | succ m ih =>
   intro i cnt F hi hc hl hF
   obtain ⟨cnt, rfl⟩ : ∃ c, cnt = c + 1 := ⟨cnt - 1, by omega⟩
   obtain ⟨zs, e, hz⟩ := h.forest i
   rw [iterO, snForests_s0]
   simp only [ltop_val N h.hN, hT]
   rw [ile_nat, decide_eq_true (by omega)]
   simp only [e, ieq_self', Bool.not_true]
   rw [fits_l (by simp only [dlen_l, List.length_cons, List.length_nil]; omega), wrap_add1 (by omega)]
   refine ih (i + 1) cnt _ (by omega) (by omega) (by rw [dapp_l, List.length_append, hl]; rfl) fun k hk => ?_
   rw [dapp_l]
   by_cases hki : k < i
   ·rw [List.getElem?_append_left (by omega)]; exact hF k hki
   ·have : k = i := by omega
    subst this
    rw [List.getElem?_append_right (by omega), hl, Nat.sub_self]
    exact ⟨zs, rfl, hz⟩
 obtain ⟨F', e, hl, hF⟩ := key (T + 1) 0 many [] (by omega) (by simp only [many]; omega) rfl (fun k hk => by omega)
 have e' : iterL snForests_s0 many ((N : Int), ts, [], (0 : Int), ()) = _ := (iterL_eq _ _ _).trans e
 refine ⟨F', by simp only [e'], by omega, fun k hk => hF k (by omega)⟩
noncomputable def offB (ts : List Tie) (t : Tie) : Bool := !t.2.2.2.1 && !conB (trk ts t.2.2.1) t.1 t.2.1
theorem off_lie (ts : List Tie) : (!ts.any (offB ts)) = propB (LieP ts) := by
 refine propB_eq ?_
 rw [Bool.not_eq_true', List.any_eq_false]
 unfold offB LieP
 constructor
 ·intro h t ht hf
  have := h t ht
  rw [hf] at this
  rw [← conB_iff]
  simpa using this
 ·intro h t ht
  cases hf : t.2.2.2.1
  ·have := h t ht hf
   rw [← conB_iff] at this
   simp [this]
  ·simp
theorem RG2.tie {N : Nat} {ts : List Tie} (h : RG2 N ts) {t : Tie} (ht : t ∈ ts) : In (N : Int) t.1 ∧ In (N : Int) t.2.1 ∧ t.1 < t.2.1 ∧ 0 ≤ t.2.2.1 ∧ t.2.2.1 ≤ topV N := by
 have h1 := ((oks_iff N ts).1 h.oks).1 t ht
 have h2 := h.inE (ed t) (List.mem_map.2 ⟨t, ht, rfl⟩)
 exact ⟨h2.1, h2.2, h1.2.1, h1.2.2.2.1, h1.2.2.2.2⟩
theorem snLying_val {N : Nat} {ts : List Tie} (h : RG2 N ts) : snLying (((N : Int), (ts, ())), ()) = some (propB (LieP ts), ()) := by
 obtain ⟨F, e, hl, hF⟩ := h.hN |> fun _ => snForests_val h
 have ht := h.ht
 have ht0 := topV_nonneg h.hN
 rw [snLying_eq, snLying_d]
 simp only [e]
 rw [ieq_dec, decide_eq_false (by rw [dlen_l]; omega)]
 simp only []
 rw [contFuncT_ly_eq, contFuncT_ly_d, idxFuncT_ly_eq, idxFuncT_ly_d]
 have e2 := findL (step := idxFuncT_ly_s0) (fun i => (F, ts, dlen ts, (i : Int), ())) ts (offB ts) (fun i => .inl (F, (i : Int), ())) (.inr (.inl (F, ()))) (by omega)
  (fun i x hi hx => by
   obtain ⟨i1, i2, _, l1, l2⟩ := h.tie (List.mem_of_getElem? hx)
   obtain ⟨k, hk⟩ := Int.eq_ofNat_of_zero_le l1
   obtain ⟨zs, f1, f2⟩ := hF k (by omega)
   rw [idxFuncT_ly_s0, dlen_l, ilt_nat, decide_eq_true hi]
   simp only [idx_some hx, hk, idx_some f1, fconn_con f2 i1 i2]
   rw [wrap_add1 (by omega)]
   unfold offB
   rw [hk]
   cases x.2.2.2.1
   ·cases conB (trk ts (k : Int)) x.1 x.2.1 <;> simp
   ·simp)
  (by rw [idxFuncT_ly_s0, dlen_l, ilt_nat, decide_eq_false (by omega)])
 have e' : iterL idxFuncT_ly_s0 many (F, ts, dlen ts, (0 : Int), ()) = _ := e2
 simp only [e']
 rw [← off_lie]
 by_cases ha : ts.any (offB ts) = true
 ·rw [if_pos ha, ha]
  simp only [ile_eq]
  rw [decide_eq_true (by omega)]
 ·rw [if_neg ha]
  simp only [ile_eq]
  have : ts.any (offB ts) = false := by simpa using ha
  rw [this]
  rfl
end Go.Pev.Pl
end
section
namespace Go.Pev.Pl
open Tok
set_option linter.unusedSimpArgs false
set_option maxRecDepth 100000
noncomputable def bigK (N : Nat) (ts : List Tie) (k : Nat) : Bool := (List.range N).any fun v => decide (max 1 (N / 2 ^ k) < csz N (trk ts k) (v : Int))
def topN (N : Nat) : Nat := (topV N).toNat
theorem topN_eq {N : Nat} (hN : N ≤ 64) : topV N = (topN N : Int) := by
 have := topV_nonneg hN
 unfold topN
 omega
theorem topN_lt {N : Nat} (hN : N ≤ 64) : topN N < 64 := by
 have : ((List.range 65).all fun k => decide (topV k < 64)) = true := by kernel_rfl
 have h1 := of_decide_eq_true (List.all_eq_true.1 this N (by simp; omega))
 have := topN_eq hN
 omega
theorem big_halv {N : Nat} (hN : N ≤ 64) (ts : List Tie) : (!(List.range (topN N + 1)).any (bigK N ts)) = propB (HalvP N ts) := by
 refine propB_eq ?_
 rw [Bool.not_eq_true', List.any_eq_false]
 unfold bigK HalvP
 constructor
 ·intro h k hk v hv
  have h1 := h k (by rw [List.mem_range]; have := topN_eq hN; omega)
  rw [Bool.not_eq_true, List.any_eq_false] at h1
  have := h1 v (by simpa using hv)
  rw [decide_eq_true_iff] at this
  omega
 ·intro h k hk
  rw [List.mem_range] at hk
  rw [Bool.not_eq_true, List.any_eq_false]
  intro v hv
  have := h k (by rw [topN_eq hN]; omega) v (by simpa using hv)
  rw [decide_eq_true_iff]
  omega
theorem csz_leN (N : Nat) (l : List Edge) (v : Int) : csz N l v ≤ N := by
 unfold csz
 have := List.countP_le_length (p := fun (w : Nat) => conB l v (w : Int)) (l := List.range N)
 rw [List.length_range] at this
 exact this
theorem shr_i64 (n s : Nat) (h : s < 64) : shr? .i64 (n : Int) (s : Int) = some ((n / 2 ^ s : Nat) : Int) := by
 rw [shr_eq, shrR, if_neg (by omega), Int.toNat_natCast, show min s (IntKind.bits .i64) = s from Nat.min_eq_left (by show s ≤ 64; omega), Int.fdiv_eq_ediv_of_nonneg _ (Int.pow_nonneg (by omega))]
 rfl
theorem wrap_u64 (n : Nat) (h : n < 18446744073709551616) : IntKind.wrap .u64 (n : Int) = (n : Int) := IntWalk.u64_in _ (by omega)
theorem snHalving_row {N : Nat} {ts : List Tie} (hN : N ≤ 64) (F : List Forest) (k q : Nat) (hk : k < 64) (L : Int) {zs : List (List Int)} (h1 : 1 ≤ N) (hF : FC (N : Int) zs (trk ts k)) :
  iterL snHalving_s1 many ((N : Int), ts, F, (k : Int), (N : Int), zs, L, (q : Int), (N : Int), (0 : Int), ()) = some (if bigK N ts k then .inl (false, ()) else .inr (.inl ((N : Int), ts, F, L, (q : Int), ()))) := by
 have e := findL (step := snHalving_s1) (fun i => ((N : Int), ts, F, (k : Int), (N : Int), zs, L, (q : Int), (N : Int), (i : Int), ())) (List.range N) (fun v => decide (max 1 (N / 2 ^ k) < csz N (trk ts k) (v : Int))) (fun _ => .inl (false, ())) (.inr (.inl ((N : Int), ts, F, L, (q : Int), ()))) (by simp; omega)
  (fun i x hi hx => by
   have := range_get' hx
   subst this
   rw [List.length_range] at hi
   have hle := csz_leN N (trk ts k) (x : Int)
   have hdl : N / 2 ^ k ≤ N := Nat.div_le_self _ _
   rw [snHalving_s1, ilt_nat, decide_eq_true hi]
   simp only [fsize_csz hF (in_of h1 hN (a := (x : Int)) ⟨by omega, by omega⟩), wrap_u64 k (by omega), shr_i64 N k hk, imax_eq]
   rw [wrap_add1 (by omega), ilt_eq]
   have : decide (max (1 : Int) ((N / 2 ^ k : Nat) : Int) < (csz N (trk ts k) (x : Int) : Int)) = decide (max 1 (N / 2 ^ k) < csz N (trk ts k) (x : Int)) := decide_eq_decide.2 (by omega)
   rw [this]
   cases decide (max 1 (N / 2 ^ k) < csz N (trk ts k) (x : Int)) <;> simp)
  (by rw [snHalving_s1, List.length_range, ilt_nat, decide_eq_false (by omega)])
 have e' : iterL snHalving_s1 many ((N : Int), ts, F, (k : Int), (N : Int), zs, L, (q : Int), (N : Int), (0 : Int), ()) = _ := e
 rw [e']
 rfl
theorem snHalving_val {N : Nat} {ts : List Tie} (h : RG2 N ts) : snHalving (((N : Int), (ts, ())), ()) = some (propB (HalvP N ts), ()) := by
 obtain ⟨F, e, hl, hF⟩ := snForests_val h
 have ht := h.ht
 have hT := topN_lt h.hN
 have hTe := topN_eq h.hN
 have hFl : F.length = topN N + 1 := by omega
 rw [snHalving_eq, snHalving_d]
 simp only [e]
 have e2 := findL (step := snHalving_s0) (fun i => ((N : Int), ts, F, dlen F, (i : Int), ())) (List.range (topN N + 1)) (bigK N ts) (fun _ => .inl (false, ())) (.inr (.inl (F, ()))) (by simp; omega)
  (fun i x hi hx => by
   have := range_get' hx
   subst this
   rw [List.length_range] at hi
   obtain ⟨zs, f1, f2⟩ := hF x (by omega)
   rw [snHalving_s0, dlen_l, hFl, ilt_nat, decide_eq_true hi]
   simp only [idx_some f1, dget_some f1, snHalving_row h.hN F x x (by omega) _ h.h1 f2]
   cases bigK N ts x
   ·simp only [Bool.false_eq_true, if_false]
    rw [wrap_add1 (by omega)]
   ·rfl)
  (by rw [snHalving_s0, List.length_range, dlen_l, hFl, ilt_nat, decide_eq_false (by omega)])
 have e' : iterL snHalving_s0 many ((N : Int), ts, F, dlen F, (0 : Int), ()) = _ := e2
 simp only [e']
 rw [← big_halv h.hN]
 cases (List.range (topN N + 1)).any (bigK N ts)
 ·simp only [Bool.false_eq_true, if_false, dlen_l, ilt_eq]
  rw [decide_eq_true (by omega)]
  rfl
 ·rfl
theorem snSound_val {N : Nat} {ts : List Tie} (h : RG2 N ts) : snSound (((N : Int), (ts, ())), ()) = some (propB (SpanP ts ∧ LieP ts ∧ HalvP N ts), ()) := by
 rw [snSound_eq, snSound_d]
 simp only [snSpan_val h, snLying_val h, snHalving_val h]
 by_cases q1 : SpanP ts
 ·rw [(propB_iff _).2 q1]
  by_cases q2 : LieP ts
  ·rw [(propB_iff _).2 q2]
   simp only []
   congr 2
   exact propB_eq (by rw [propB_iff]; exact ⟨fun q => ⟨q1, q2, q⟩, fun q => q.2.2⟩)
  ·have e1 : propB (LieP ts) = false := by rw [← Bool.not_eq_true, propB_iff]; exact q2
   have e2 : propB (SpanP ts ∧ LieP ts ∧ HalvP N ts) = false := by rw [← Bool.not_eq_true, propB_iff]; exact fun q => q2 q.2.1
   rw [e1, e2]
 ·have e1 : propB (SpanP ts) = false := by rw [← Bool.not_eq_true, propB_iff]; exact q1
  have e2 : propB (SpanP ts ∧ LieP ts ∧ HalvP N ts) = false := by rw [← Bool.not_eq_true, propB_iff]; exact fun q => q1 q.1
  rw [e1, e2]
theorem RG2.snd {N : Nat} {ts : List Tie} (h : RG2 N ts) (hs : SpanP ts ∧ LieP ts ∧ HalvP N ts) : Snd N (topN N : Int) ts := by
 refine ⟨fun x hx => ?_, fun x hx => inE_in (h.inE _ (List.mem_map.2 ⟨x, hx, rfl⟩)), h.fo0, hs.2.1, fun k hk v hv => hs.2.2 k (by rw [topN_eq h.hN]; exact hk) v hv⟩
 rw [← topN_eq h.hN]
 exact (h.tie hx).2.2.2
theorem Snd.parts {N : Nat} {ts : List Tie} (h : RG2 N ts) (hs : Snd N (topN N : Int) ts) : SpanP ts ∧ LieP ts ∧ HalvP N ts := by
 refine ⟨fun e he => (hs.span _ _).1 (.edge e he), hs.lie, fun k hk v hv => hs.halv k (by rw [← topN_eq h.hN]; exact hk) v hv⟩
def lvs (xs : List Tie) : Int := (xs.map fun t => t.2.2.1).sum
theorem foldl_lvs (P : Tie → Bool) : ∀ (xs : List Tie) (a : Int), xs.foldl (fun a t => if P t = true then a + t.2.2.1 else a) a = a + lvs (xs.filter P) := by
 intro xs
 induction xs with
 | nil => intro a; simp [lvs]
 | cons x xs ih =>
  intro a
  rw [List.foldl_cons, ih, List.filter_cons]
  by_cases h : P x = true
  ·rw [if_pos h, if_pos h]
   unfold lvs
   rw [List.map_cons, List.sum_cons]; omega
  ·rw [if_neg h, if_neg h]
theorem foldl_all : ∀ (xs : List Tie) (a : Int), xs.foldl (fun a t => a + t.2.2.1) a = a + lvs xs := by
 intro xs
 induction xs with
 | nil => intro a; simp [lvs]
 | cons x xs ih =>
  intro a
  rw [List.foldl_cons, ih]
  unfold lvs
  rw [List.map_cons, List.sum_cons]; omega
theorem snLevels_val {N : Nat} {ts : List Tie} (h : RG2 N ts) : snLevels (((N : Int), (ts, ())), ()) = some (lvs ts, ()) := by
 have ht := h.ht
 rw [snLevels_eq, snLevels_d, snTotL_eq, snTotL_d]
 simp only [h.lr, Bool.not_true]
 have e := walkL (step := snTotL_s0) (fun i (a : Int) => (a, ts, dlen ts, (i : Int), ())) ts (fun t a => .inl (a + t.2.2.1)) (fun a => .inl (a, ())) (fun i a => 0 ≤ a ∧ a ≤ 64 * (i : Int)) (by omega)
  (fun i x a hi hx ha => by
   refine ⟨fun m' h' => ?_, fun r h' => (by cases h')⟩
   cases h'
   have h2 := (h.tie (List.mem_of_getElem? hx)).2.2.2
   have h3 := topN_lt h.hN
   have h4 := topN_eq h.hN
   refine ⟨?_, by omega⟩
   rw [snTotL_s0, dlen_l, ilt_nat, decide_eq_true hi]
   simp only [idx_some hx]
   rw [wrap_add1 (by omega), wrap_in (by omega)])
  (fun a _ => by rw [snTotL_s0, dlen_l, ilt_nat, decide_eq_false (by omega)]) 0 ⟨Int.le_refl _, by simp⟩
 have e' : iterL snTotL_s0 many ((0 : Int), ts, dlen ts, (0 : Int), ()) = _ := e
 simp only [e']
 rw [walk_fold (fun (t : Tie) (a : Int) => a + t.2.2.1), foldl_all, Int.zero_add]
theorem snWeight_val {N : Nat} {ts : List Tie} (h : RG2 N ts) : snWeight (((N : Int), (ts, ())), ()) = some (lvs (ts.filter fun t => t.2.2.2.1), ()) := by
 have ht := h.ht
 rw [snWeight_eq, snWeight_d, snTotW_eq, snTotW_d]
 simp only [h.lr, Bool.not_true]
 have e := walkL (step := snTotW_s0) (fun i (a : Int) => (a, ts, dlen ts, (i : Int), ())) ts (fun t a => .inl (if t.2.2.2.1 = true then a + t.2.2.1 else a)) (fun a => .inl (a, ())) (fun i a => 0 ≤ a ∧ a ≤ 64 * (i : Int)) (by omega)
  (fun i x a hi hx ha => by
   refine ⟨fun m' h' => ?_, fun r h' => (by cases h')⟩
   cases h'
   have h2 := (h.tie (List.mem_of_getElem? hx)).2.2.2
   have h3 := topN_lt h.hN
   have h4 := topN_eq h.hN
   refine ⟨?_, by split <;> omega⟩
   rw [snTotW_s0, dlen_l, ilt_nat, decide_eq_true hi]
   simp only [idx_some hx]
   rw [wrap_add1 (by omega), wrap_in (by omega)]
   by_cases hb : x.2.2.2.1 = true
   ·simp only [hb, if_true]
   ·have hb : x.2.2.2.1 = false := by simpa using hb
    simp only [hb]
    rfl)
  (fun a _ => by rw [snTotW_s0, dlen_l, ilt_nat, decide_eq_false (by omega)]) 0 ⟨Int.le_refl _, by simp⟩
 have e' : iterL snTotW_s0 many ((0 : Int), ts, dlen ts, (0 : Int), ()) = _ := e
 simp only [e']
 rw [walk_fold (fun (t : Tie) (a : Int) => if t.2.2.2.1 = true then a + t.2.2.1 else a), foldl_lvs (fun t => t.2.2.2.1), Int.zero_add]
end Go.Pev.Pl
end
section
namespace Go.Pev.Pl
open Tok
set_option linter.unusedSimpArgs false
set_option maxRecDepth 100000
theorem alive24_true : alive24 () = some (true, ()) := by
 rw [show alive24 () = @alive24 idI () from congrArg (fun i => @alive24 i ()) lockI_eq]
 kernel_rfl
theorem snSpan_bad (n : Int) (ts : List Tie) (hr : lright ((n, (ts, ())), ()) = some (false, ())) : snSpan ((n, (ts, ())), ()) = some (false, ()) := by
 have hl : lforest ((n, (ts, ())), (0 : Int), ()) = some ((0, ([], ())), 1, ()) := by
  rw [lforest_eq, lforest_d]
  simp only [hr, Bool.not_false]
 rw [snSpan_eq, snSpan_d]
 simp only [hl, ieq_dec]
 rfl
theorem snSound_bad (n : Int) (ts : List Tie) (hr : lright ((n, (ts, ())), ()) = some (false, ())) : snSound ((n, (ts, ())), ()) = some (false, ()) := by
 rw [snSound_eq, snSound_d]
 simp only [snSpan_bad n ts hr]
theorem great24_val (n : Int) (ts : List Tie) : great24 ((n, (ts, ())), ()) = some (true, ()) ∨ (great24 ((n, (ts, ())), ()) = some (false, ()) ∧ ts.length ≤ 30 ∧ n ≤ 12) := by
 rw [great24_eq, great24_d]
 simp only [dlen_l, ilt_eq]
 by_cases h1 : (30 : Int) < ts.length
 ·left; simp only [decide_eq_true h1]
 by_cases h2 : (12 : Int) < n
 ·left; simp only [decide_eq_false h1, decide_eq_true h2]
 ·right; simp only [decide_eq_false h1, decide_eq_false h2]; exact ⟨trivial, by omega, by omega⟩
theorem top_one {N : Nat} (hN : N ≤ 64) : N / 2 ^ topN N ≤ 1 := by
 have : ((List.range 65).all fun k => decide (k / 2 ^ topN k ≤ 1)) = true := by kernel_rfl
 exact of_decide_eq_true (List.all_eq_true.1 this N (by simp; omega))
theorem RG2.below {N : Nat} {ts : List Tie} (h : RG2 N ts) (hs : Snd N (topN N : Int) ts) {t : Tie} (ht : t ∈ ts) : t.2.2.1 < (topN N : Int) :=
 hs.below (top_one h.hN) ht (by have := (h.tie ht).2.2.1; omega)
theorem lvs_le (m : Int) : ∀ xs : List Tie, (∀ x ∈ xs, x.2.2.1 ≤ m) → lvs xs ≤ (xs.length : Int) * m := by
 intro xs
 induction xs with
 | nil => intro _; simp [lvs]
 | cons x xs ih =>
  intro h
  have h1 := ih fun y hy => h y (by simp [hy])
  have h2 := h x (by simp)
  unfold lvs at *
  rw [List.map_cons, List.sum_cons, List.length_cons]
  have : ((xs.length + 1 : Nat) : Int) * m = (xs.length : Int) * m + m := by
   rw [Int.natCast_add, Int.add_mul]; simp
  omega
theorem lvs_filter (P : Tie → Bool) : ∀ xs : List Tie, (∀ x ∈ xs, 0 ≤ x.2.2.1) → 0 ≤ lvs (xs.filter P) ∧ lvs (xs.filter P) ≤ lvs xs := by
 intro xs
 induction xs with
 | nil => intro _; simp [lvs]
 | cons x xs ih =>
  intro h
  have h1 := ih fun y hy => h y (by simp [hy])
  have h2 := h x (by simp)
  rw [List.filter_cons]
  unfold lvs at *
  by_cases hp : P x = true
  ·rw [if_pos hp, List.map_cons, List.map_cons, List.sum_cons, List.sum_cons]; omega
  ·rw [if_neg hp, List.map_cons, List.sum_cons]; omega
theorem soundTop_true (g : Int × List Tie × Unit) (h0 : wfD (.prod (.int .i64) (.prod (.slice (.prod (.int .i64) (.prod (.int .i64) (.prod (.int .i64) (.prod .bool .unit))))) .unit)) g) : soundTop (g, ()) = some (true, ()) := by
 obtain ⟨n, ts, ⟨⟩⟩ := g
 rw [soundTop_eq, soundTop_d]
 simp only [alive24_true, Bool.not_true]
 rcases great24_val n ts with g1 | ⟨g1, g2, g3⟩
 ·simp only [g1]
 simp only [g1]
 rcases rg2_cases n ts (by omega) with ⟨_, r⟩ | ⟨N, rfl, h⟩
 ·simp only [snSound_bad n ts r, Bool.not_false]
 by_cases hp : SpanP ts ∧ LieP ts ∧ HalvP N ts
 ·have hs := h.snd hp
  have hb := fun t ht => h.below hs (t := t) ht
  have hT := topN_eq h.hN
  have hT64 := topN_lt h.hN
  simp only [snSound_val h, (propB_iff _).2 hp, Bool.not_true, top21_val N h.hN, hT]
  have e := findL (step := soundTop_s0) (fun i => ((N : Int), ts, (topN N : Int), (i : Int), ())) ts (fun _ => false) (fun _ => .inl (false, ())) (.inr (.inl ((N : Int), ts, (topN N : Int), ()))) (by omega)
   (fun i x hi hx => by
    have := hb x (List.mem_of_getElem? hx)
    rw [soundTop_s0, dlen_l, ilt_nat, decide_eq_true hi]
    simp only [idx_some hx]
    rw [ile_eq, decide_eq_false (by omega), wrap_add1 (by omega)]
    rfl)
   (by rw [soundTop_s0, dlen_l, ilt_nat, decide_eq_false (by omega)])
  have e' : iterL soundTop_s0 many ((N : Int), ts, (topN N : Int), (0 : Int), ()) = _ := e
  have hf : (ts.any fun _ => false) = false := by simp
  rw [e', hf]
  simp only [Bool.false_eq_true, if_false, snLevels_val h, snWeight_val h, dlen_l, imax_eq]
  rw [wrap_in (n := (topN N : Int) - 1) (by omega)]
  have hl1 := lvs_le (max 0 ((topN N : Int) - 1)) ts (fun x hx => by have := hb x hx; omega)
  have hl2 := lvs_filter (fun t => t.2.2.2.1) ts (fun x hx => (h.tie hx).2.2.2.1)
  have hm : 0 ≤ (ts.length : Int) * max 0 ((topN N : Int) - 1) ∧ (ts.length : Int) * max 0 ((topN N : Int) - 1) ≤ 30 * 64 := by
   refine ⟨Int.mul_nonneg (by omega) (by omega), ?_⟩
   exact Int.mul_le_mul (by omega) (by omega) (by omega) (by omega)
  rw [wrap_in (by omega), ile_eq, decide_eq_true hl1, ile_eq, decide_eq_true hl2.2, ile_eq, decide_eq_true hl2.1]
 ·have : propB (SpanP ts ∧ LieP ts ∧ HalvP N ts) = false := by rw [← Bool.not_eq_true, propB_iff]; exact hp
  simp only [snSound_val h, this, Bool.not_false]
end Go.Pev.Pl
end
section
namespace Go.Pev
open Go.Proofs
set_option maxRecDepth 100000
noncomputable section
-- archipelago/tour.sized
abbrev tsized_h : Hints := {  }
theorem tsized_okd : ∀ v, tsized_d v = pevCall Tryz.prog Env.none tsized_h Tryz.f159 tsized_i tsized_o tsized_r v := by
 rintro ⟨a0, ⟨⟩⟩
 kernel_rfl
theorem tsized_q : loopList (bodyOf Tryz.f159) 0 = [] := by kernel_rfl
theorem tsized_spec : SpecOK Tryz.prog 159 (mkCall 1 tsized_i tsized_o tsized_r tsized) := call_spec Env.none_ok Tryz.func159 (by kernel_rfl) (by kernel_rfl) rfl (fun v => (tsized_eq v).trans (tsized_okd v)) (LoopsOK_of tsized_q trivial)
def E_tsized : Env := Env.none.ext 159 true true (mkCall 1 tsized_i tsized_o tsized_r tsized)
theorem E_tsized_ok : EnvOK Tryz.prog E_tsized := Env.ext_ok Env.none_ok tsized_spec (fun _ => mkCall_local rfl rfl) (fun _ => mkCall_in rfl rfl)
-- archipelago/tour.in
abbrev tin_h : Hints := {  }
theorem tin_okd : ∀ v, tin_d v = pevCall Tryz.prog E_tsized tin_h Tryz.f156 tin_i tin_o tin_r v := by
 rintro ⟨a0, a1, ⟨⟩⟩
 kernel_rfl
theorem tin_q : loopList (bodyOf Tryz.f156) 0 = [] := by kernel_rfl
theorem tin_spec : SpecOK Tryz.prog 156 (mkCall 2 tin_i tin_o tin_r tin) := call_spec E_tsized_ok Tryz.func156 (by kernel_rfl) (by kernel_rfl) rfl (fun v => (tin_eq v).trans (tin_okd v)) (LoopsOK_of tin_q trivial)
def E_tin : Env := E_tsized.ext 156 true true (mkCall 2 tin_i tin_o tin_r tin)
theorem E_tin_ok : EnvOK Tryz.prog E_tin := Env.ext_ok E_tsized_ok tin_spec (fun _ => mkCall_local rfl rfl) (fun _ => mkCall_in rfl rfl)
-- archipelago/tour.Arc
abbrev tarc_h : Hints := {  }
theorem tarc_okd : ∀ v, tarc_d v = pevCall Tryz.prog E_tin tarc_h Tryz.f187 tarc_i tarc_o tarc_r v := by
 rintro ⟨a0, a1, a2, ⟨⟩⟩
 kernel_rfl
theorem tarc_q : loopList (bodyOf Tryz.f187) 0 = [] := by kernel_rfl
theorem tarc_spec : SpecOK Tryz.prog 187 (mkCall 3 tarc_i tarc_o tarc_r tarc) := call_spec E_tin_ok Tryz.func187 (by kernel_rfl) (by kernel_rfl) rfl (fun v => (tarc_eq v).trans (tarc_okd v)) (LoopsOK_of tarc_q trivial)
def E_tarc : Env := E_tin.ext 187 true true (mkCall 3 tarc_i tarc_o tarc_r tarc)
theorem E_tarc_ok : EnvOK Tryz.prog E_tarc := Env.ext_ok E_tin_ok tarc_spec (fun _ => mkCall_local rfl rfl) (fun _ => mkCall_in rfl rfl)
-- archipelago/tour.Token
abbrev ttoken_h : Hints := { fp := fun n => match n with | 5 => [[], [], [], [], [], [], [], [], []] | _ => [] }
theorem ttoken_okd : ∀ v, ttoken_d v = pevCall Tryz.prog E_tarc ttoken_h Tryz.f197 ttoken_i ttoken_o ttoken_r v := by
 rintro ⟨a0, a1, ⟨⟩⟩
 kernel_rfl
theorem ttoken_q : loopList (bodyOf Tryz.f197) 0 = [] := by kernel_rfl
theorem ttoken_spec : SpecOK Tryz.prog 197 (mkCall 2 ttoken_i ttoken_o ttoken_r ttoken) := call_spec E_tarc_ok Tryz.func197 (by kernel_rfl) (by kernel_rfl) rfl (fun v => (ttoken_eq v).trans (ttoken_okd v)) (LoopsOK_of ttoken_q trivial)
def E_ttoken : Env := E_tarc.ext 197 true true (mkCall 2 ttoken_i ttoken_o ttoken_r ttoken)
theorem E_ttoken_ok : EnvOK Tryz.prog E_ttoken := Env.ext_ok E_tarc_ok ttoken_spec (fun _ => mkCall_local rfl rfl) (fun _ => mkCall_in rfl rfl)
-- archipelago/tour.Make
abbrev tmake_h : Hints := { loop := fun n => match n with | 0 => loopBy 0 25 tmake_i0 tmake_o0 tmake_s0 | _ => fun _ _ _ => none }
theorem tmake_s0_ok : ∀ v, tmake_s0 v = roundOf Tryz.prog E_ttoken tmake_h 1 0 25 (loopOf Tryz.f129 0) tmake_i0 tmake_o0 v := by
 rintro ⟨a0, a1, a2, a3, a4, ⟨⟩⟩
 kernel_rfl
theorem tmake_q0 : loopList (loopOf Tryz.f129 0) 1 = [] := by kernel_rfl
theorem tmake_l0 : CodeOK Tryz.prog 0 (.loop (loopOf Tryz.f129 0)) (tmake_h.loop 0) := loop_ok E_ttoken_ok (tmake_s0_ok) (LoopsOK_of tmake_q0 trivial)
theorem tmake_okd : ∀ v, tmake_d v = pevCall Tryz.prog E_ttoken tmake_h Tryz.f129 tmake_i tmake_o tmake_r v := by
 rintro ⟨a0, ⟨⟩⟩
 kernel_rfl
theorem tmake_q : loopList (bodyOf Tryz.f129) 0 = [(0, loopOf Tryz.f129 0)] := by kernel_rfl
theorem tmake_spec : SpecOK Tryz.prog 129 (mkCall 1 tmake_i tmake_o tmake_r tmake) := call_spec E_ttoken_ok Tryz.func129 (by kernel_rfl) (by kernel_rfl) rfl (fun v => (tmake_eq v).trans (tmake_okd v)) (LoopsOK_of tmake_q ⟨tmake_l0, trivial⟩)
def E_tmake : Env := E_ttoken.ext 129 true true (mkCall 1 tmake_i tmake_o tmake_r tmake)
theorem E_tmake_ok : EnvOK Tryz.prog E_tmake := Env.ext_ok E_ttoken_ok tmake_spec (fun _ => mkCall_local rfl rfl) (fun _ => mkCall_in rfl rfl)
-- slices.Index[[]int,int]
abbrev indexI_h : Hints := { loop := fun n => match n with | 0 => loopBy 0 19 indexI_i0 indexI_o0 indexI_s0 | _ => fun _ _ _ => none }
theorem indexI_s0_ok : ∀ v, indexI_s0 v = roundOf Tryz.prog E_tmake indexI_h 1 0 19 (loopOf Tryz.f146 0) indexI_i0 indexI_o0 v := by
 rintro ⟨a0, a1, a2, a3, ⟨⟩⟩
 kernel_rfl
theorem indexI_q0 : loopList (loopOf Tryz.f146 0) 1 = [] := by kernel_rfl
theorem indexI_l0 : CodeOK Tryz.prog 0 (.loop (loopOf Tryz.f146 0)) (indexI_h.loop 0) := loop_ok E_tmake_ok (indexI_s0_ok) (LoopsOK_of indexI_q0 trivial)
theorem indexI_okd : ∀ v, indexI_d v = pevCall Tryz.prog E_tmake indexI_h Tryz.f146 indexI_i indexI_o indexI_r v := by
 rintro ⟨a0, a1, ⟨⟩⟩
 kernel_rfl
theorem indexI_q : loopList (bodyOf Tryz.f146) 0 = [(0, loopOf Tryz.f146 0)] := by kernel_rfl
theorem indexI_spec : SpecOK Tryz.prog 146 (mkCall 2 indexI_i indexI_o indexI_r indexI) := call_spec E_tmake_ok Tryz.func146 (by kernel_rfl) (by kernel_rfl) rfl (fun v => (indexI_eq v).trans (indexI_okd v)) (LoopsOK_of indexI_q ⟨indexI_l0, trivial⟩)
def E_indexI : Env := E_tmake.ext 146 true true (mkCall 2 indexI_i indexI_o indexI_r indexI)
theorem E_indexI_ok : EnvOK Tryz.prog E_indexI := Env.ext_ok E_tmake_ok indexI_spec (fun _ => mkCall_local rfl rfl) (fun _ => mkCall_in rfl rfl)
-- slices.Contains[[]int,int]
abbrev containsI_h : Hints := {  }
theorem containsI_okd : ∀ v, containsI_d v = pevCall Tryz.prog E_indexI containsI_h Tryz.f113 containsI_i containsI_o containsI_r v := by
 rintro ⟨a0, a1, ⟨⟩⟩
 kernel_rfl
theorem containsI_q : loopList (bodyOf Tryz.f113) 0 = [] := by kernel_rfl
theorem containsI_spec : SpecOK Tryz.prog 113 (mkCall 2 containsI_i containsI_o containsI_r containsI) := call_spec E_indexI_ok Tryz.func113 (by kernel_rfl) (by kernel_rfl) rfl (fun v => (containsI_eq v).trans (containsI_okd v)) (LoopsOK_of containsI_q trivial)
def E_containsI : Env := E_indexI.ext 113 true true (mkCall 2 containsI_i containsI_o containsI_r containsI)
theorem E_containsI_ok : EnvOK Tryz.prog E_containsI := Env.ext_ok E_indexI_ok containsI_spec (fun _ => mkCall_local rfl rfl) (fun _ => mkCall_in rfl rfl)
-- slices.Min[[]int,int]
abbrev minI_h : Hints := { loop := fun n => match n with | 0 => loopBy 0 25 minI_i0 minI_o0 minI_s0 | _ => fun _ _ _ => none }
theorem minI_s0_ok : ∀ v, minI_s0 v = roundOf Tryz.prog E_containsI minI_h 1 0 25 (loopOf Tryz.f177 0) minI_i0 minI_o0 v := by
 rintro ⟨a0, a1, a2, ⟨⟩⟩
 kernel_rfl
theorem minI_q0 : loopList (loopOf Tryz.f177 0) 1 = [] := by kernel_rfl
theorem minI_l0 : CodeOK Tryz.prog 0 (.loop (loopOf Tryz.f177 0)) (minI_h.loop 0) := loop_ok E_containsI_ok (minI_s0_ok) (LoopsOK_of minI_q0 trivial)
theorem minI_okd : ∀ v, minI_d v = pevCall Tryz.prog E_containsI minI_h Tryz.f177 minI_i minI_o minI_r v := by
 rintro ⟨a0, ⟨⟩⟩
 kernel_rfl
theorem minI_q : loopList (bodyOf Tryz.f177) 0 = [(0, loopOf Tryz.f177 0)] := by kernel_rfl
theorem minI_spec : SpecOK Tryz.prog 177 (mkCall 1 minI_i minI_o minI_r minI) := call_spec E_containsI_ok Tryz.func177 (by kernel_rfl) (by kernel_rfl) rfl (fun v => (minI_eq v).trans (minI_okd v)) (LoopsOK_of minI_q ⟨minI_l0, trivial⟩)
def E_minI : Env := E_containsI.ext 177 true true (mkCall 1 minI_i minI_o minI_r minI)
theorem E_minI_ok : EnvOK Tryz.prog E_minI := Env.ext_ok E_containsI_ok minI_spec (fun _ => mkCall_local rfl rfl) (fun _ => mkCall_in rfl rfl)
-- slices.Grow[[]int,int]
abbrev growI_h : Hints := {  }
theorem growI_okd : ∀ v, growI_d v = pevCall Tryz.prog E_minI growI_h Tryz.f201 growI_i growI_o growI_r v := by
 rintro ⟨a0, ⟨⟩⟩
 kernel_rfl
theorem growI_q : loopList (bodyOf Tryz.f201) 0 = [] := by kernel_rfl
theorem growI_spec : SpecOK Tryz.prog 201 (mkCall 2 growI_i growI_o growI_r growI) := call_spec E_minI_ok Tryz.func201 (by kernel_rfl) (by kernel_rfl) rfl (fun v => (growI_eq v).trans (growI_okd v)) (LoopsOK_of growI_q trivial)
def E_growI : Env := E_minI.ext 201 false true (mkCall 2 growI_i growI_o growI_r growI)
theorem E_growI_ok : EnvOK Tryz.prog E_growI := Env.ext_ok E_minI_ok growI_spec ((by simp)) (fun _ => mkCall_in rfl rfl)
-- slices.Concat[[]int,int]
abbrev concatI_h : Hints := { loop := fun n => match n with | 0 => loopBy 0 36 concatI_i0 concatI_o0 concatI_s0 | 1 => loopBy 0 36 concatI_i1 concatI_o1 concatI_s1 | _ => fun _ _ _ => none }
theorem concatI_s1_ok : ∀ v, concatI_s1 v = roundOf Tryz.prog E_growI concatI_h 2 0 36 (loopOf Tryz.f186 1) concatI_i1 concatI_o1 v := by
 rintro ⟨a0, a1, a2, a3, ⟨⟩⟩
 kernel_rfl
theorem concatI_q1 : loopList (loopOf Tryz.f186 1) 2 = [] := by kernel_rfl
theorem concatI_l1 : CodeOK Tryz.prog 0 (.loop (loopOf Tryz.f186 1)) (concatI_h.loop 1) := loop_ok E_growI_ok (concatI_s1_ok) (LoopsOK_of concatI_q1 trivial)
theorem concatI_s0_ok : ∀ v, concatI_s0 v = roundOf Tryz.prog E_growI concatI_h 1 0 36 (loopOf Tryz.f186 0) concatI_i0 concatI_o0 v := by
 rintro ⟨a0, a1, a2, a3, a4, ⟨⟩⟩
 kernel_rfl
theorem concatI_q0 : loopList (loopOf Tryz.f186 0) 1 = [] := by kernel_rfl
theorem concatI_l0 : CodeOK Tryz.prog 0 (.loop (loopOf Tryz.f186 0)) (concatI_h.loop 0) := loop_ok E_growI_ok (concatI_s0_ok) (LoopsOK_of concatI_q0 trivial)
theorem concatI_okd : ∀ v, concatI_d v = pevCall Tryz.prog E_growI concatI_h Tryz.f186 concatI_i concatI_o concatI_r v := by
 rintro ⟨a0, ⟨⟩⟩
 kernel_rfl
theorem concatI_q : loopList (bodyOf Tryz.f186) 0 = [(0, loopOf Tryz.f186 0), (1, loopOf Tryz.f186 1)] := by kernel_rfl
theorem concatI_spec : SpecOK Tryz.prog 186 (mkCall 1 concatI_i concatI_o concatI_r concatI) := call_spec E_growI_ok Tryz.func186 (by kernel_rfl) (by kernel_rfl) rfl (fun v => (concatI_eq v).trans (concatI_okd v)) (LoopsOK_of concatI_q ⟨concatI_l0, concatI_l1, trivial⟩)
def E_concatI : Env := E_growI.ext 186 true true (mkCall 1 concatI_i concatI_o concatI_r concatI)
theorem E_concatI_ok : EnvOK Tryz.prog E_concatI := Env.ext_ok E_growI_ok concatI_spec (fun _ => mkCall_local rfl rfl) (fun _ => mkCall_in rfl rfl)
-- archipelago/ring.Right$1: gone through in place
theorem ringOdd_b : Tryz.f195.body.isSome = true := by kernel_rfl
theorem ringOdd_n : (Tryz.f195.name == "runtime.NumGoroutine") = false := by kernel_rfl
theorem ringOdd_z : loops (bodyOf Tryz.f195) = 0 := by kernel_rfl
def E_ringOdd_1 : Env := E_concatI.ext 195 false false (mkInline Tryz.prog E_concatI {} Tryz.f195)
theorem E_ringOdd_1_ok : EnvOK Tryz.prog E_ringOdd_1 := Env.ext_ok E_concatI_ok (inline_spec E_concatI_ok Tryz.func195 ringOdd_b ringOdd_n ringOdd_z) (by simp) (by simp)
-- slices.IndexFunc[[]int,int]
abbrev idxFuncI_odd_h : Hints := { loop := fun n => match n with | 0 => loopBy 0 19 idxFuncI_odd_i0 idxFuncI_odd_o0 idxFuncI_odd_s0 | _ => fun _ _ _ => none }
theorem idxFuncI_odd_s0_ok : ∀ v, idxFuncI_odd_s0 v = roundOf Tryz.prog E_ringOdd_1 idxFuncI_odd_h 1 0 19 (loopOf Tryz.f174 0) idxFuncI_odd_i0 idxFuncI_odd_o0 v := by
 rintro ⟨a0, a1, a2, ⟨⟩⟩
 kernel_rfl
theorem idxFuncI_odd_q0 : loopList (loopOf Tryz.f174 0) 1 = [] := by kernel_rfl
theorem idxFuncI_odd_l0 : CodeOK Tryz.prog 0 (.loop (loopOf Tryz.f174 0)) (idxFuncI_odd_h.loop 0) := loop_ok E_ringOdd_1_ok (idxFuncI_odd_s0_ok) (LoopsOK_of idxFuncI_odd_q0 trivial)
theorem idxFuncI_odd_okd : ∀ v, idxFuncI_odd_d v = pevCall Tryz.prog E_ringOdd_1 idxFuncI_odd_h Tryz.f174 idxFuncI_odd_i idxFuncI_odd_o idxFuncI_odd_r v := by
 rintro ⟨a0, ⟨⟩⟩
 kernel_rfl
theorem idxFuncI_odd_q : loopList (bodyOf Tryz.f174) 0 = [(0, loopOf Tryz.f174 0)] := by kernel_rfl
theorem idxFuncI_odd_spec : SpecOK Tryz.prog 174 (mkCall 2 idxFuncI_odd_i idxFuncI_odd_o idxFuncI_odd_r idxFuncI_odd) := call_spec E_ringOdd_1_ok Tryz.func174 (by kernel_rfl) (by kernel_rfl) rfl (fun v => (idxFuncI_odd_eq v).trans (idxFuncI_odd_okd v)) (LoopsOK_of idxFuncI_odd_q ⟨idxFuncI_odd_l0, trivial⟩)
def E_idxFuncI_odd : Env := E_ringOdd_1.extC 174 1 195 (mkCall 2 idxFuncI_odd_i idxFuncI_odd_o idxFuncI_odd_r idxFuncI_odd)
theorem E_idxFuncI_odd_ok : EnvOK Tryz.prog E_idxFuncI_odd := Env.extC_ok E_ringOdd_1_ok idxFuncI_odd_spec (mkCall_in rfl rfl)
end
end Go.Pev
end
section
namespace Go.Pev
open Go.Proofs
set_option maxRecDepth 100000
noncomputable section
-- slices.ContainsFunc[[]int,int]
abbrev contFuncI_odd_h : Hints := {  }
theorem contFuncI_odd_okd : ∀ v, contFuncI_odd_d v = pevCall Tryz.prog E_idxFuncI_odd contFuncI_odd_h Tryz.f154 contFuncI_odd_i contFuncI_odd_o contFuncI_odd_r v := by
 rintro ⟨a0, ⟨⟩⟩
 kernel_rfl
theorem contFuncI_odd_q : loopList (bodyOf Tryz.f154) 0 = [] := by kernel_rfl
theorem contFuncI_odd_spec : SpecOK Tryz.prog 154 (mkCall 2 contFuncI_odd_i contFuncI_odd_o contFuncI_odd_r contFuncI_odd) := call_spec E_idxFuncI_odd_ok Tryz.func154 (by kernel_rfl) (by kernel_rfl) rfl (fun v => (contFuncI_odd_eq v).trans (contFuncI_odd_okd v)) (LoopsOK_of contFuncI_odd_q trivial)
def E_contFuncI_odd : Env := E_idxFuncI_odd.extC 154 1 195 (mkCall 2 contFuncI_odd_i contFuncI_odd_o contFuncI_odd_r contFuncI_odd)
theorem E_contFuncI_odd_ok : EnvOK Tryz.prog E_contFuncI_odd := Env.extC_ok E_idxFuncI_odd_ok contFuncI_odd_spec (mkCall_in rfl rfl)
-- archipelago/ring.once[int]
abbrev once_h : Hints := { loop := fun n => match n with | 0 => loopBy 0 23 once_i0 once_o0 once_s0 | _ => fun _ _ _ => none }
theorem once_s0_ok : ∀ v, once_s0 v = roundOf Tryz.prog E_contFuncI_odd once_h 1 0 23 (loopOf Tryz.f196 0) once_i0 once_o0 v := by
 rintro ⟨a0, a1, a2, a3, a4, ⟨⟩⟩
 kernel_rfl
theorem once_q0 : loopList (loopOf Tryz.f196 0) 1 = [] := by kernel_rfl
theorem once_l0 : CodeOK Tryz.prog 0 (.loop (loopOf Tryz.f196 0)) (once_h.loop 0) := loop_ok E_contFuncI_odd_ok (once_s0_ok) (LoopsOK_of once_q0 trivial)
theorem once_okd : ∀ v, once_d v = pevCall Tryz.prog E_contFuncI_odd once_h Tryz.f196 once_i once_o once_r v := by
 rintro ⟨a0, ⟨⟩⟩
 kernel_rfl
theorem once_q : loopList (bodyOf Tryz.f196) 0 = [(0, loopOf Tryz.f196 0)] := by kernel_rfl
theorem once_spec : SpecOK Tryz.prog 196 (mkCall 1 once_i once_o once_r once) := call_spec E_contFuncI_odd_ok Tryz.func196 (by kernel_rfl) (by kernel_rfl) rfl (fun v => (once_eq v).trans (once_okd v)) (LoopsOK_of once_q ⟨once_l0, trivial⟩)
def E_once : Env := E_contFuncI_odd.ext 196 true true (mkCall 1 once_i once_o once_r once)
theorem E_once_ok : EnvOK Tryz.prog E_once := Env.ext_ok E_contFuncI_odd_ok once_spec (fun _ => mkCall_local rfl rfl) (fun _ => mkCall_in rfl rfl)
-- archipelago/ring.Right
abbrev rright_h : Hints := {  }
theorem rright_okd : ∀ v, rright_d v = pevCall Tryz.prog E_once rright_h Tryz.f176 rright_i rright_o rright_r v := by
 rintro ⟨a0, ⟨⟩⟩
 kernel_rfl
theorem rright_q : loopList (bodyOf Tryz.f176) 0 = [] := by kernel_rfl
theorem rright_spec : SpecOK Tryz.prog 176 (mkCall 1 rright_i rright_o rright_r rright) := call_spec E_once_ok Tryz.func176 (by kernel_rfl) (by kernel_rfl) rfl (fun v => (rright_eq v).trans (rright_okd v)) (LoopsOK_of rright_q trivial)
def E_rright : Env := E_once.ext 176 true true (mkCall 1 rright_i rright_o rright_r rright)
theorem E_rright_ok : EnvOK Tryz.prog E_rright := Env.ext_ok E_once_ok rright_spec (fun _ => mkCall_local rfl rfl) (fun _ => mkCall_in rfl rfl)
-- archipelago/ring.turned
abbrev turned_h : Hints := { fp := fun n => match n with | 1 => [[], [], [], [], [], [], [], [0], []] | _ => [] }
theorem turned_okd : ∀ v, turned_d v = pevCall Tryz.prog E_rright turned_h Tryz.f200 turned_i turned_o turned_r v := by
 rintro ⟨a0, a1, ⟨⟩⟩
 kernel_rfl
theorem turned_q : loopList (bodyOf Tryz.f200) 0 = [] := by kernel_rfl
theorem turned_spec : SpecOK Tryz.prog 200 (mkCall 2 turned_i turned_o turned_r turned) := call_spec E_rright_ok Tryz.func200 (by kernel_rfl) (by kernel_rfl) rfl (fun v => (turned_eq v).trans (turned_okd v)) (LoopsOK_of turned_q trivial)
def E_turned : Env := E_rright.ext 200 true true (mkCall 2 turned_i turned_o turned_r turned)
theorem E_turned_ok : EnvOK Tryz.prog E_turned := Env.ext_ok E_rright_ok turned_spec (fun _ => mkCall_local rfl rfl) (fun _ => mkCall_in rfl rfl)
-- archipelago/ring.places
abbrev places_h : Hints := { loop := fun n => match n with | 0 => loopBy 0 29 places_i0 places_o0 places_s0 | _ => fun _ _ _ => none }
theorem places_s0_ok : ∀ v, places_s0 v = roundOf Tryz.prog E_turned places_h 1 0 29 (loopOf Tryz.f199 0) places_i0 places_o0 v := by
 rintro ⟨a0, a1, a2, a3, a4, ⟨⟩⟩
 kernel_rfl
theorem places_q0 : loopList (loopOf Tryz.f199 0) 1 = [] := by kernel_rfl
theorem places_l0 : CodeOK Tryz.prog 0 (.loop (loopOf Tryz.f199 0)) (places_h.loop 0) := loop_ok E_turned_ok (places_s0_ok) (LoopsOK_of places_q0 trivial)
theorem places_okd : ∀ v, places_d v = pevCall Tryz.prog E_turned places_h Tryz.f199 places_i places_o places_r v := by
 rintro ⟨a0, a1, ⟨⟩⟩
 kernel_rfl
theorem places_q : loopList (bodyOf Tryz.f199) 0 = [(0, loopOf Tryz.f199 0)] := by kernel_rfl
theorem places_spec : SpecOK Tryz.prog 199 (mkCall 2 places_i places_o places_r places) := call_spec E_turned_ok Tryz.func199 (by kernel_rfl) (by kernel_rfl) rfl (fun v => (places_eq v).trans (places_okd v)) (LoopsOK_of places_q ⟨places_l0, trivial⟩)
def E_places : Env := E_turned.ext 199 true true (mkCall 2 places_i places_o places_r places)
theorem E_places_ok : EnvOK Tryz.prog E_places := Env.ext_ok E_turned_ok places_spec (fun _ => mkCall_local rfl rfl) (fun _ => mkCall_in rfl rfl)
-- archipelago/ring.From
abbrev rfrom_h : Hints := {  }
theorem rfrom_okd : ∀ v, rfrom_d v = pevCall Tryz.prog E_places rfrom_h Tryz.f185 rfrom_i rfrom_o rfrom_r v := by
 rintro ⟨a0, a1, ⟨⟩⟩
 kernel_rfl
theorem rfrom_q : loopList (bodyOf Tryz.f185) 0 = [] := by kernel_rfl
theorem rfrom_spec : SpecOK Tryz.prog 185 (mkCall 2 rfrom_i rfrom_o rfrom_r rfrom) := call_spec E_places_ok Tryz.func185 (by kernel_rfl) (by kernel_rfl) rfl (fun v => (rfrom_eq v).trans (rfrom_okd v)) (LoopsOK_of rfrom_q trivial)
def E_rfrom : Env := E_places.ext 185 true true (mkCall 2 rfrom_i rfrom_o rfrom_r rfrom)
theorem E_rfrom_ok : EnvOK Tryz.prog E_rfrom := Env.ext_ok E_places_ok rfrom_spec (fun _ => mkCall_local rfl rfl) (fun _ => mkCall_in rfl rfl)
-- archipelago/ring.Plain
abbrev rplain_h : Hints := {  }
theorem rplain_okd : ∀ v, rplain_d v = pevCall Tryz.prog E_rfrom rplain_h Tryz.f202 rplain_i rplain_o rplain_r v := by
 rintro ⟨a0, ⟨⟩⟩
 kernel_rfl
theorem rplain_q : loopList (bodyOf Tryz.f202) 0 = [] := by kernel_rfl
theorem rplain_spec : SpecOK Tryz.prog 202 (mkCall 1 rplain_i rplain_o rplain_r rplain) := call_spec E_rfrom_ok Tryz.func202 (by kernel_rfl) (by kernel_rfl) rfl (fun v => (rplain_eq v).trans (rplain_okd v)) (LoopsOK_of rplain_q trivial)
def E_rplain : Env := E_rfrom.ext 202 true true (mkCall 1 rplain_i rplain_o rplain_r rplain)
theorem E_rplain_ok : EnvOK Tryz.prog E_rplain := Env.ext_ok E_rfrom_ok rplain_spec (fun _ => mkCall_local rfl rfl) (fun _ => mkCall_in rfl rfl)
-- archipelago/tour.place$1: gone through in place
theorem tplace1_b : Tryz.f180.body.isSome = true := by kernel_rfl
theorem tplace1_n : (Tryz.f180.name == "runtime.NumGoroutine") = false := by kernel_rfl
theorem tplace1_z : loops (bodyOf Tryz.f180) = 0 := by kernel_rfl
def E_tplace1_2 : Env := E_rplain.ext 180 false false (mkInline Tryz.prog E_rplain {} Tryz.f180)
theorem E_tplace1_2_ok : EnvOK Tryz.prog E_tplace1_2 := Env.ext_ok E_rplain_ok (inline_spec E_rplain_ok Tryz.func180 tplace1_b tplace1_n tplace1_z) (by simp) (by simp)
-- slices.IndexFunc[[][]int,[]int]
abbrev idxFuncL_place_h : Hints := { loop := fun n => match n with | 0 => loopBy 1 19 idxFuncL_place_i0 idxFuncL_place_o0 idxFuncL_place_s0 | _ => fun _ _ _ => none }
theorem idxFuncL_place_s0_ok : ∀ v, idxFuncL_place_s0 v = roundOf Tryz.prog E_tplace1_2 idxFuncL_place_h 1 1 19 (loopOf Tryz.f179 0) idxFuncL_place_i0 idxFuncL_place_o0 v := by
 rintro ⟨a0, a1, a2, a3, ⟨⟩⟩
 kernel_rfl
theorem idxFuncL_place_q0 : loopList (loopOf Tryz.f179 0) 1 = [] := by kernel_rfl
theorem idxFuncL_place_l0 : CodeOK Tryz.prog 1 (.loop (loopOf Tryz.f179 0)) (idxFuncL_place_h.loop 0) := loop_ok E_tplace1_2_ok (idxFuncL_place_s0_ok) (LoopsOK_of idxFuncL_place_q0 trivial)
theorem idxFuncL_place_okd : ∀ v, idxFuncL_place_d v = pevCall Tryz.prog E_tplace1_2 idxFuncL_place_h Tryz.f179 idxFuncL_place_i idxFuncL_place_o idxFuncL_place_r v := by
 rintro ⟨a0, a1, ⟨⟩⟩
 kernel_rfl
theorem idxFuncL_place_q : loopList (bodyOf Tryz.f179) 0 = [(0, loopOf Tryz.f179 0)] := by kernel_rfl
theorem idxFuncL_place_spec : SpecOK Tryz.prog 179 (mkCall 2 idxFuncL_place_i idxFuncL_place_o idxFuncL_place_r idxFuncL_place) := call_spec E_tplace1_2_ok Tryz.func179 (by kernel_rfl) (by kernel_rfl) rfl (fun v => (idxFuncL_place_eq v).trans (idxFuncL_place_okd v)) (LoopsOK_of idxFuncL_place_q ⟨idxFuncL_place_l0, trivial⟩)
def E_idxFuncL_place : Env := E_tplace1_2.extC 179 1 180 (mkCall 2 idxFuncL_place_i idxFuncL_place_o idxFuncL_place_r idxFuncL_place)
theorem E_idxFuncL_place_ok : EnvOK Tryz.prog E_idxFuncL_place := Env.extC_ok E_tplace1_2_ok idxFuncL_place_spec (mkCall_in rfl rfl)
-- archipelago/tour.place
abbrev tplace_h : Hints := {  }
theorem tplace_okd : ∀ v, tplace_d v = pevCall Tryz.prog E_idxFuncL_place tplace_h Tryz.f157 tplace_i tplace_o tplace_r v := by
 rintro ⟨a0, a1, ⟨⟩⟩
 kernel_rfl
theorem tplace_q : loopList (bodyOf Tryz.f157) 0 = [] := by kernel_rfl
theorem tplace_spec : SpecOK Tryz.prog 157 (mkCall 2 tplace_i tplace_o tplace_r tplace) := call_spec E_idxFuncL_place_ok Tryz.func157 (by kernel_rfl) (by kernel_rfl) rfl (fun v => (tplace_eq v).trans (tplace_okd v)) (LoopsOK_of tplace_q trivial)
def E_tplace : Env := E_idxFuncL_place.ext 157 true true (mkCall 2 tplace_i tplace_o tplace_r tplace)
theorem E_tplace_ok : EnvOK Tryz.prog E_tplace := Env.ext_ok E_idxFuncL_place_ok tplace_spec (fun _ => mkCall_local rfl rfl) (fun _ => mkCall_in rfl rfl)
-- (*archipelago/tour.walk).along: gone through in place
theorem along_b : Tryz.f198.body.isSome = true := by kernel_rfl
theorem along_n : (Tryz.f198.name == "runtime.NumGoroutine") = false := by kernel_rfl
theorem along_z : loops (bodyOf Tryz.f198) = 0 := by kernel_rfl
def E_along_3 : Env := E_tplace.ext 198 false false (mkInline Tryz.prog E_tplace {} Tryz.f198)
theorem E_along_3_ok : EnvOK Tryz.prog E_along_3 := Env.ext_ok E_tplace_ok (inline_spec E_tplace_ok Tryz.func198 along_b along_n along_z) (by simp) (by simp)
-- archipelago/tour.goes
abbrev goes_h : Hints := { loop := fun n => match n with | 0 => loopBy 0 107 goes_i0 goes_o0 goes_s0 | _ => fun _ _ _ => none, fp := fun n => match n with | 8 => [[], [], [], [], [], [], [], [], [1000003], [], [], [], [], [], [], [], [], [0], [0], [0], [], [0], [0], [0], [2, 26], [], [2, 26], [2, 26], [], [], [], [], []] | 13 => [[], [0], [0], [0], [2], [], [], [], [0], [0], [0], [6], [], [0], [0], [0], [4], [], [], []] | 3 => [[], [], [], [], [], [], [], [], [11], [], [], [], [8, 10, 12], []] | _ => [] }
theorem goes_s0_ok : ∀ v, goes_s0 v = roundOf Tryz.prog E_along_3 goes_h 1 0 107 (loopOf Tryz.f178 0) goes_i0 goes_o0 v := by
 rintro ⟨a0, a1, a2, a3, a4, a5, a6, ⟨⟩⟩
 kernel_rfl
theorem goes_q0 : loopList (loopOf Tryz.f178 0) 1 = [] := by kernel_rfl
theorem goes_l0 : CodeOK Tryz.prog 0 (.loop (loopOf Tryz.f178 0)) (goes_h.loop 0) := loop_ok E_along_3_ok (goes_s0_ok) (LoopsOK_of goes_q0 trivial)
theorem goes_okd : ∀ v, goes_d v = pevCall Tryz.prog E_along_3 goes_h Tryz.f178 goes_i goes_o goes_r v := by
 rintro ⟨a0, a1, ⟨⟩⟩
 kernel_rfl
theorem goes_q : loopList (bodyOf Tryz.f178) 0 = [(0, loopOf Tryz.f178 0)] := by kernel_rfl
theorem goes_spec : SpecOK Tryz.prog 178 (mkCall 2 goes_i goes_o goes_r goes) := call_spec E_along_3_ok Tryz.func178 (by kernel_rfl) (by kernel_rfl) rfl (fun v => (goes_eq v).trans (goes_okd v)) (LoopsOK_of goes_q ⟨goes_l0, trivial⟩)
def E_goes : Env := E_along_3.ext 178 true true (mkCall 2 goes_i goes_o goes_r goes)
theorem E_goes_ok : EnvOK Tryz.prog E_goes := Env.ext_ok E_along_3_ok goes_spec (fun _ => mkCall_local rfl rfl) (fun _ => mkCall_in rfl rfl)
end
end Go.Pev
end
section
namespace Go.Pev
open Go.Proofs
set_option maxRecDepth 100000
noncomputable section
-- archipelago/tour.Right
abbrev tright_h : Hints := { loop := fun n => match n with | 0 => loopBy 0 87 tright_i0 tright_o0 tright_s0 | 1 => loopBy 0 87 tright_i1 tright_o1 tright_s1 | 2 => loopBy 0 87 tright_i2 tright_o2 tright_s2 | _ => fun _ _ _ => none, fp := fun n => match n with | 8 => [[], [], [], [], [], [], [], [], [], [], [], [], [], [], [], [], [], [], [], [], [], [], [], [], [0], [0], [], [], [], []] | _ => [] }
theorem tright_s2_ok : ∀ v, tright_s2 v = roundOf Tryz.prog E_goes tright_h 3 0 87 (loopOf Tryz.f153 2) tright_i2 tright_o2 v := by
 rintro ⟨a0, a1, a2, ⟨⟩⟩
 kernel_rfl
theorem tright_q2 : loopList (loopOf Tryz.f153 2) 3 = [] := by kernel_rfl
theorem tright_l2 : CodeOK Tryz.prog 0 (.loop (loopOf Tryz.f153 2)) (tright_h.loop 2) := loop_ok E_goes_ok (tright_s2_ok) (LoopsOK_of tright_q2 trivial)
theorem tright_s1_ok : ∀ v, tright_s1 v = roundOf Tryz.prog E_goes tright_h 2 0 87 (loopOf Tryz.f153 1) tright_i1 tright_o1 v := by
 rintro ⟨a0, a1, a2, a3, a4, a5, a6, a7, a8, a9, a10, a11, a12, a13, a14, a15, a16, a17, a18, a19, a20, a21, a22, a23, a24, a25, ⟨⟩⟩
 kernel_rfl
theorem tright_q1 : loopList (loopOf Tryz.f153 1) 2 = [] := by kernel_rfl
theorem tright_l1 : CodeOK Tryz.prog 0 (.loop (loopOf Tryz.f153 1)) (tright_h.loop 1) := loop_ok E_goes_ok (tright_s1_ok) (LoopsOK_of tright_q1 trivial)
theorem tright_s0_ok : ∀ v, tright_s0 v = roundOf Tryz.prog E_goes tright_h 1 0 87 (loopOf Tryz.f153 0) tright_i0 tright_o0 v := by
 rintro ⟨a0, a1, a2, a3, a4, a5, a6, ⟨⟩⟩
 kernel_rfl
theorem tright_q0 : loopList (loopOf Tryz.f153 0) 1 = [(1, loopOf Tryz.f153 1)] := by kernel_rfl
theorem tright_l0 : CodeOK Tryz.prog 0 (.loop (loopOf Tryz.f153 0)) (tright_h.loop 0) := loop_ok E_goes_ok (tright_s0_ok) (LoopsOK_of tright_q0 ⟨tright_l1, trivial⟩)
theorem tright_okd : ∀ v, tright_d v = pevCall Tryz.prog E_goes tright_h Tryz.f153 tright_i tright_o tright_r v := by
 rintro ⟨a0, ⟨⟩⟩
 kernel_rfl
theorem tright_q : loopList (bodyOf Tryz.f153) 0 = [(0, loopOf Tryz.f153 0), (2, loopOf Tryz.f153 2)] := by kernel_rfl
theorem tright_spec : SpecOK Tryz.prog 153 (mkCall 1 tright_i tright_o tright_r tright) := call_spec E_goes_ok Tryz.func153 (by kernel_rfl) (by kernel_rfl) rfl (fun v => (tright_eq v).trans (tright_okd v)) (LoopsOK_of tright_q ⟨tright_l0, tright_l2, trivial⟩)
def E_tright : Env := E_goes.ext 153 true true (mkCall 1 tright_i tright_o tright_r tright)
theorem E_tright_ok : EnvOK Tryz.prog E_tright := Env.ext_ok E_goes_ok tright_spec (fun _ => mkCall_local rfl rfl) (fun _ => mkCall_in rfl rfl)
-- archipelago/tour.asked
abbrev asked_h : Hints := {  }
theorem asked_okd : ∀ v, asked_d v = pevCall Tryz.prog E_tright asked_h Tryz.f184 asked_i asked_o asked_r v := by
 rintro ⟨a0, a1, a2, ⟨⟩⟩
 kernel_rfl
theorem asked_q : loopList (bodyOf Tryz.f184) 0 = [] := by kernel_rfl
theorem asked_spec : SpecOK Tryz.prog 184 (mkCall 3 asked_i asked_o asked_r asked) := call_spec E_tright_ok Tryz.func184 (by kernel_rfl) (by kernel_rfl) rfl (fun v => (asked_eq v).trans (asked_okd v)) (LoopsOK_of asked_q trivial)
def E_asked : Env := E_tright.ext 184 true true (mkCall 3 asked_i asked_o asked_r asked)
theorem E_asked_ok : EnvOK Tryz.prog E_asked := Env.ext_ok E_tright_ok asked_spec (fun _ => mkCall_local rfl rfl) (fun _ => mkCall_in rfl rfl)
-- cmp.isNaN[int]
abbrev nanI_h : Hints := {  }
theorem nanI_okd : ∀ v, nanI_d v = pevCall Tryz.prog E_asked nanI_h Tryz.f118 nanI_i nanI_o nanI_r v := by
 rintro ⟨a0, ⟨⟩⟩
 kernel_rfl
theorem nanI_q : loopList (bodyOf Tryz.f118) 0 = [] := by kernel_rfl
theorem nanI_spec : SpecOK Tryz.prog 118 (mkCall 1 nanI_i nanI_o nanI_r nanI) := call_spec E_asked_ok Tryz.func118 (by kernel_rfl) (by kernel_rfl) rfl (fun v => (nanI_eq v).trans (nanI_okd v)) (LoopsOK_of nanI_q trivial)
def E_nanI : Env := E_asked.ext 118 true true (mkCall 1 nanI_i nanI_o nanI_r nanI)
theorem E_nanI_ok : EnvOK Tryz.prog E_nanI := Env.ext_ok E_asked_ok nanI_spec (fun _ => mkCall_local rfl rfl) (fun _ => mkCall_in rfl rfl)
-- cmp.Compare[int]
abbrev compareI_h : Hints := {  }
theorem compareI_okd : ∀ v, compareI_d v = pevCall Tryz.prog E_nanI compareI_h Tryz.f74 compareI_i compareI_o compareI_r v := by
 rintro ⟨a0, a1, ⟨⟩⟩
 kernel_rfl
theorem compareI_q : loopList (bodyOf Tryz.f74) 0 = [] := by kernel_rfl
theorem compareI_spec : SpecOK Tryz.prog 74 (mkCall 2 compareI_i compareI_o compareI_r compareI) := call_spec E_nanI_ok Tryz.func74 (by kernel_rfl) (by kernel_rfl) rfl (fun v => (compareI_eq v).trans (compareI_okd v)) (LoopsOK_of compareI_q trivial)
def E_compareI : Env := E_nanI.ext 74 true true (mkCall 2 compareI_i compareI_o compareI_r compareI)
theorem E_compareI_ok : EnvOK Tryz.prog E_compareI := Env.ext_ok E_nanI_ok compareI_spec (fun _ => mkCall_local rfl rfl) (fun _ => mkCall_in rfl rfl)
-- archipelago/tour.with$1
abbrev with1_h : Hints := { fp := fun n => match n with | 1 => [[], [], [], [], [], [], [], []] | _ => [] }
theorem with1_okd : ∀ v, with1_d v = pevCall Tryz.prog E_compareI with1_h Tryz.f204 with1_i with1_o with1_r v := by
 rintro ⟨a0, a1, ⟨⟩⟩
 kernel_rfl
theorem with1_q : loopList (bodyOf Tryz.f204) 0 = [] := by kernel_rfl
theorem with1_spec : SpecOK Tryz.prog 204 (mkCall 2 with1_i with1_o with1_r with1) := call_spec E_compareI_ok Tryz.func204 (by kernel_rfl) (by kernel_rfl) rfl (fun v => (with1_eq v).trans (with1_okd v)) (LoopsOK_of with1_q trivial)
def E_with1 : Env := E_compareI.ext 204 true true (mkCall 2 with1_i with1_o with1_r with1)
theorem E_with1_ok : EnvOK Tryz.prog E_with1 := Env.ext_ok E_compareI_ok with1_spec (fun _ => mkCall_local rfl rfl) (fun _ => mkCall_in rfl rfl)
-- math/bits.Len64
abbrev len64_h : Hints := {  }
theorem len64_okd : ∀ v, len64_d v = pevCall Tryz.prog E_with1 len64_h Tryz.f134 len64_i len64_o len64_r v := by
 rintro ⟨a0, ⟨⟩⟩
 kernel_rfl
theorem len64_q : loopList (bodyOf Tryz.f134) 0 = [] := by kernel_rfl
theorem len64_spec : SpecOK Tryz.prog 134 (mkCall 1 len64_i len64_o len64_r len64) := call_spec E_with1_ok Tryz.func134 (by kernel_rfl) (by kernel_rfl) rfl (fun v => (len64_eq v).trans (len64_okd v)) (LoopsOK_of len64_q trivial)
def E_len64 : Env := E_with1.ext 134 true true (mkCall 1 len64_i len64_o len64_r len64)
theorem E_len64_ok : EnvOK Tryz.prog E_len64 := Env.ext_ok E_with1_ok len64_spec (fun _ => mkCall_local rfl rfl) (fun _ => mkCall_in rfl rfl)
-- math/bits.Len
abbrev bitsLen_h : Hints := {  }
theorem bitsLen_okd : ∀ v, bitsLen_d v = pevCall Tryz.prog E_len64 bitsLen_h Tryz.f100 bitsLen_i bitsLen_o bitsLen_r v := by
 rintro ⟨a0, ⟨⟩⟩
 kernel_rfl
theorem bitsLen_q : loopList (bodyOf Tryz.f100) 0 = [] := by kernel_rfl
theorem bitsLen_spec : SpecOK Tryz.prog 100 (mkCall 1 bitsLen_i bitsLen_o bitsLen_r bitsLen) := call_spec E_len64_ok Tryz.func100 (by kernel_rfl) (by kernel_rfl) rfl (fun v => (bitsLen_eq v).trans (bitsLen_okd v)) (LoopsOK_of bitsLen_q trivial)
def E_bitsLen : Env := E_len64.ext 100 true true (mkCall 1 bitsLen_i bitsLen_o bitsLen_r bitsLen)
theorem E_bitsLen_ok : EnvOK Tryz.prog E_bitsLen := Env.ext_ok E_len64_ok bitsLen_spec (fun _ => mkCall_local rfl rfl) (fun _ => mkCall_in rfl rfl)
-- (*slices.xorshift).Next
abbrev xorNext_h : Hints := { fp := fun n => match n with | 3 => [[], [0], [0], [], [0], [0], [], [], [0], [1]] | 2 => [[], [0], [0], [], [0], [0], [], [], [0], [1]] | 1 => [[], [0], [0], [], [0], [0], [], [], [0], [1]] | _ => [] }
theorem xorNext_okd : ∀ v, xorNext_d v = pevCall Tryz.prog E_bitsLen xorNext_h Tryz.f191 xorNext_i xorNext_o xorNext_r v := by
 rintro ⟨a0, ⟨⟩⟩
 kernel_rfl
theorem xorNext_q : loopList (bodyOf Tryz.f191) 0 = [] := by kernel_rfl
theorem xorNext_spec : SpecOK Tryz.prog 191 (mkCall 1 xorNext_i xorNext_o xorNext_r xorNext) := call_spec E_bitsLen_ok Tryz.func191 (by kernel_rfl) (by kernel_rfl) rfl (fun v => (xorNext_eq v).trans (xorNext_okd v)) (LoopsOK_of xorNext_q trivial)
def E_xorNext : Env := E_bitsLen.ext 191 false true (mkCall 1 xorNext_i xorNext_o xorNext_r xorNext)
theorem E_xorNext_ok : EnvOK Tryz.prog E_xorNext := Env.ext_ok E_bitsLen_ok xorNext_spec ((by simp)) (fun _ => mkCall_in rfl rfl)
-- slices.nextPowerOfTwo
abbrev nextPow_h : Hints := {  }
theorem nextPow_okd : ∀ v, nextPow_d v = pevCall Tryz.prog E_xorNext nextPow_h Tryz.f190 nextPow_i nextPow_o nextPow_r v := by
 rintro ⟨a0, ⟨⟩⟩
 kernel_rfl
theorem nextPow_q : loopList (bodyOf Tryz.f190) 0 = [] := by kernel_rfl
theorem nextPow_spec : SpecOK Tryz.prog 190 (mkCall 1 nextPow_i nextPow_o nextPow_r nextPow) := call_spec E_xorNext_ok Tryz.func190 (by kernel_rfl) (by kernel_rfl) rfl (fun v => (nextPow_eq v).trans (nextPow_okd v)) (LoopsOK_of nextPow_q trivial)
def E_nextPow : Env := E_xorNext.ext 190 true true (mkCall 1 nextPow_i nextPow_o nextPow_r nextPow)
theorem E_nextPow_ok : EnvOK Tryz.prog E_nextPow := Env.ext_ok E_xorNext_ok nextPow_spec (fun _ => mkCall_local rfl rfl) (fun _ => mkCall_in rfl rfl)
-- slices.insertionSortCmpFunc[[]int]
abbrev insL_h : Hints := { loop := fun n => match n with | 0 => loopBy 1 53 insL_i0 insL_o0 insL_s0 | 1 => loopBy 1 53 insL_i1 insL_o1 insL_s1 | _ => fun _ _ _ => none, fp := fun n => match n with | 4 => [[], [], [], [], [], [], [], [0], [0], [], [], [], [0], [0], [], [], []] | 6 => [[], [], [], [], [], [], [], [], [0], [0], [], [], [0], [0], [0], [1], [0], [1]] | _ => [] }
theorem insL_s1_ok : ∀ v, insL_s1 v = roundOf Tryz.prog E_nextPow insL_h 2 1 53 (loopOf Tryz.f207 1) insL_i1 insL_o1 v := by
 rintro ⟨a0, a1, a2, a3, a4, ⟨⟩⟩
 kernel_rfl
theorem insL_q1 : loopList (loopOf Tryz.f207 1) 2 = [] := by kernel_rfl
theorem insL_l1 : CodeOK Tryz.prog 1 (.loop (loopOf Tryz.f207 1)) (insL_h.loop 1) := loop_ok E_nextPow_ok (insL_s1_ok) (LoopsOK_of insL_q1 trivial)
theorem insL_s0_ok : ∀ v, insL_s0 v = roundOf Tryz.prog E_nextPow insL_h 1 1 53 (loopOf Tryz.f207 0) insL_i0 insL_o0 v := by
 rintro ⟨a0, a1, a2, a3, ⟨⟩⟩
 kernel_rfl
theorem insL_q0 : loopList (loopOf Tryz.f207 0) 1 = [(1, loopOf Tryz.f207 1)] := by kernel_rfl
theorem insL_l0 : CodeOK Tryz.prog 1 (.loop (loopOf Tryz.f207 0)) (insL_h.loop 0) := loop_ok E_nextPow_ok (insL_s0_ok) (LoopsOK_of insL_q0 ⟨insL_l1, trivial⟩)
theorem insL_okd : ∀ v, insL_d v = pevCall Tryz.prog E_nextPow insL_h Tryz.f207 insL_i insL_o insL_r v := by
 rintro ⟨a0, a1, a2, ⟨⟩⟩
 kernel_rfl
theorem insL_q : loopList (bodyOf Tryz.f207) 0 = [(0, loopOf Tryz.f207 0)] := by kernel_rfl
theorem insL_spec : SpecOK Tryz.prog 207 (mkCall 4 insL_i insL_o insL_r insL) := call_spec E_nextPow_ok Tryz.func207 (by kernel_rfl) (by kernel_rfl) rfl (fun v => (insL_eq v).trans (insL_okd v)) (LoopsOK_of insL_q ⟨insL_l0, trivial⟩)
def E_insL : Env := E_nextPow.extC 207 3 204 (mkCall 4 insL_i insL_o insL_r insL)
theorem E_insL_ok : EnvOK Tryz.prog E_insL := Env.extC_ok E_nextPow_ok insL_spec (mkCall_in rfl rfl)
-- slices.siftDownCmpFunc[[]int]
abbrev siftL_h : Hints := { loop := fun n => match n with | 0 => loopBy 1 82 siftL_i0 siftL_o0 siftL_s0 | _ => fun _ _ _ => none, fp := fun n => match n with | 6 => [[], [], [], [], [], [], [], [], [], [], [], [], [0], [0], [], [], [], [], [0], [0], [0], [1], [0], [1]] | 5 => [[], [], [], [], [], [0], [0], [], [], [], [], [0], [0], [], [], []] | 3 => [[], [], [], [], [], [], [], [], [], [], [0], [0], [], [], [], [], [], [0], [0], [], [], []] | _ => [] }
theorem siftL_s0_ok : ∀ v, siftL_s0 v = roundOf Tryz.prog E_insL siftL_h 1 1 82 (loopOf Tryz.f215 0) siftL_i0 siftL_o0 v := by
 rintro ⟨a0, a1, a2, a3, ⟨⟩⟩
 kernel_rfl
theorem siftL_q0 : loopList (loopOf Tryz.f215 0) 1 = [] := by kernel_rfl
theorem siftL_l0 : CodeOK Tryz.prog 1 (.loop (loopOf Tryz.f215 0)) (siftL_h.loop 0) := loop_ok E_insL_ok (siftL_s0_ok) (LoopsOK_of siftL_q0 trivial)
theorem siftL_okd : ∀ v, siftL_d v = pevCall Tryz.prog E_insL siftL_h Tryz.f215 siftL_i siftL_o siftL_r v := by
 rintro ⟨a0, a1, a2, a3, ⟨⟩⟩
 kernel_rfl
theorem siftL_q : loopList (bodyOf Tryz.f215) 0 = [(0, loopOf Tryz.f215 0)] := by kernel_rfl
theorem siftL_spec : SpecOK Tryz.prog 215 (mkCall 5 siftL_i siftL_o siftL_r siftL) := call_spec E_insL_ok Tryz.func215 (by kernel_rfl) (by kernel_rfl) rfl (fun v => (siftL_eq v).trans (siftL_okd v)) (LoopsOK_of siftL_q ⟨siftL_l0, trivial⟩)
def E_siftL : Env := E_insL.extC 215 4 204 (mkCall 5 siftL_i siftL_o siftL_r siftL)
theorem E_siftL_ok : EnvOK Tryz.prog E_siftL := Env.extC_ok E_insL_ok siftL_spec (mkCall_in rfl rfl)
-- slices.heapSortCmpFunc[[]int]
abbrev heapL_h : Hints := { loop := fun n => match n with | 0 => loopBy 1 60 heapL_i0 heapL_o0 heapL_s0 | 1 => loopBy 1 60 heapL_i1 heapL_o1 heapL_s1 | _ => fun _ _ _ => none, fp := fun n => match n with | 10 => [[], [], [], [], [], [], [], [], [], [], [0], [0], [], [], [0], [0], [0], [1], [0], [1]] | _ => [] }
theorem heapL_s1_ok : ∀ v, heapL_s1 v = roundOf Tryz.prog E_siftL heapL_h 2 1 60 (loopOf Tryz.f208 1) heapL_i1 heapL_o1 v := by
 rintro ⟨a0, a1, a2, a3, ⟨⟩⟩
 kernel_rfl
theorem heapL_q1 : loopList (loopOf Tryz.f208 1) 2 = [] := by kernel_rfl
theorem heapL_l1 : CodeOK Tryz.prog 1 (.loop (loopOf Tryz.f208 1)) (heapL_h.loop 1) := loop_ok E_siftL_ok (heapL_s1_ok) (LoopsOK_of heapL_q1 trivial)
theorem heapL_s0_ok : ∀ v, heapL_s0 v = roundOf Tryz.prog E_siftL heapL_h 1 1 60 (loopOf Tryz.f208 0) heapL_i0 heapL_o0 v := by
 rintro ⟨a0, a1, a2, a3, a4, ⟨⟩⟩
 kernel_rfl
theorem heapL_q0 : loopList (loopOf Tryz.f208 0) 1 = [] := by kernel_rfl
theorem heapL_l0 : CodeOK Tryz.prog 1 (.loop (loopOf Tryz.f208 0)) (heapL_h.loop 0) := loop_ok E_siftL_ok (heapL_s0_ok) (LoopsOK_of heapL_q0 trivial)
theorem heapL_okd : ∀ v, heapL_d v = pevCall Tryz.prog E_siftL heapL_h Tryz.f208 heapL_i heapL_o heapL_r v := by
 rintro ⟨a0, a1, a2, ⟨⟩⟩
 kernel_rfl
theorem heapL_q : loopList (bodyOf Tryz.f208) 0 = [(0, loopOf Tryz.f208 0), (1, loopOf Tryz.f208 1)] := by kernel_rfl
theorem heapL_spec : SpecOK Tryz.prog 208 (mkCall 4 heapL_i heapL_o heapL_r heapL) := call_spec E_siftL_ok Tryz.func208 (by kernel_rfl) (by kernel_rfl) rfl (fun v => (heapL_eq v).trans (heapL_okd v)) (LoopsOK_of heapL_q ⟨heapL_l0, heapL_l1, trivial⟩)
def E_heapL : Env := E_siftL.extC 208 3 204 (mkCall 4 heapL_i heapL_o heapL_r heapL)
theorem E_heapL_ok : EnvOK Tryz.prog E_heapL := Env.extC_ok E_siftL_ok heapL_spec (mkCall_in rfl rfl)
end
end Go.Pev
end
section
namespace Go.Pev
open Go.Proofs
set_option maxRecDepth 100000
noncomputable section
-- slices.breakPatternsCmpFunc[[]int]
abbrev breakL_h : Hints := { loop := fun n => match n with | 0 => loopBy 1 67 breakL_i0 breakL_o0 breakL_s0 | _ => fun _ _ _ => none, fp := fun n => match n with | 10 => [[], [], [], [], [], [], [], [], [], [], [0], [0], [], [], [0], [0], [0], [1], [0], [1]] | _ => [] }
theorem breakL_s0_ok : ∀ v, breakL_s0 v = roundOf Tryz.prog E_heapL breakL_h 1 1 67 (loopOf Tryz.f209 0) breakL_i0 breakL_o0 v := by
 rintro ⟨a0, a1, a2, a3, a4, a5, ⟨⟩⟩
 kernel_rfl
theorem breakL_q0 : loopList (loopOf Tryz.f209 0) 1 = [] := by kernel_rfl
theorem breakL_l0 : CodeOK Tryz.prog 1 (.loop (loopOf Tryz.f209 0)) (breakL_h.loop 0) := loop_ok E_heapL_ok (breakL_s0_ok) (LoopsOK_of breakL_q0 trivial)
theorem breakL_okd : ∀ v, breakL_d v = pevCall Tryz.prog E_heapL breakL_h Tryz.f209 breakL_i breakL_o breakL_r v := by
 rintro ⟨a0, a1, a2, ⟨⟩⟩
 kernel_rfl
theorem breakL_q : loopList (bodyOf Tryz.f209) 0 = [(0, loopOf Tryz.f209 0)] := by kernel_rfl
theorem breakL_spec : SpecOK Tryz.prog 209 (mkCall 4 breakL_i breakL_o breakL_r breakL) := call_spec E_heapL_ok Tryz.func209 (by kernel_rfl) (by kernel_rfl) rfl (fun v => (breakL_eq v).trans (breakL_okd v)) (LoopsOK_of breakL_q ⟨breakL_l0, trivial⟩)
def E_breakL : Env := E_heapL.extC 209 3 204 (mkCall 4 breakL_i breakL_o breakL_r breakL)
theorem E_breakL_ok : EnvOK Tryz.prog E_breakL := Env.extC_ok E_heapL_ok breakL_spec (mkCall_in rfl rfl)
-- slices.order2CmpFunc[[]int]
abbrev order2L_h : Hints := { fp := fun n => match n with | 1 => [[], [], [], [0], [0], [], [], [0], [0], [], []] | _ => [] }
theorem order2L_okd : ∀ v, order2L_d v = pevCall Tryz.prog E_breakL order2L_h Tryz.f218 order2L_i order2L_o order2L_r v := by
 rintro ⟨a0, a1, a2, a3, ⟨⟩⟩
 kernel_rfl
theorem order2L_q : loopList (bodyOf Tryz.f218) 0 = [] := by kernel_rfl
theorem order2L_spec : SpecOK Tryz.prog 218 (mkCall 5 order2L_i order2L_o order2L_r order2L) := call_spec E_breakL_ok Tryz.func218 (by kernel_rfl) (by kernel_rfl) rfl (fun v => (order2L_eq v).trans (order2L_okd v)) (LoopsOK_of order2L_q trivial)
def E_order2L : Env := E_breakL.extC 218 4 204 (mkCall 5 order2L_i order2L_o order2L_r order2L)
theorem E_order2L_ok : EnvOK Tryz.prog E_order2L := Env.extC_ok E_breakL_ok order2L_spec (mkCall_in rfl rfl)
-- slices.medianCmpFunc[[]int]
abbrev medianL_h : Hints := {  }
theorem medianL_okd : ∀ v, medianL_d v = pevCall Tryz.prog E_order2L medianL_h Tryz.f217 medianL_i medianL_o medianL_r v := by
 rintro ⟨a0, a1, a2, a3, a4, ⟨⟩⟩
 kernel_rfl
theorem medianL_q : loopList (bodyOf Tryz.f217) 0 = [] := by kernel_rfl
theorem medianL_spec : SpecOK Tryz.prog 217 (mkCall 6 medianL_i medianL_o medianL_r medianL) := call_spec E_order2L_ok Tryz.func217 (by kernel_rfl) (by kernel_rfl) rfl (fun v => (medianL_eq v).trans (medianL_okd v)) (LoopsOK_of medianL_q trivial)
def E_medianL : Env := E_order2L.extC 217 5 204 (mkCall 6 medianL_i medianL_o medianL_r medianL)
theorem E_medianL_ok : EnvOK Tryz.prog E_medianL := Env.extC_ok E_order2L_ok medianL_spec (mkCall_in rfl rfl)
-- slices.medianAdjacentCmpFunc[[]int]
abbrev medAdjL_h : Hints := {  }
theorem medAdjL_okd : ∀ v, medAdjL_d v = pevCall Tryz.prog E_medianL medAdjL_h Tryz.f216 medAdjL_i medAdjL_o medAdjL_r v := by
 rintro ⟨a0, a1, a2, ⟨⟩⟩
 kernel_rfl
theorem medAdjL_q : loopList (bodyOf Tryz.f216) 0 = [] := by kernel_rfl
theorem medAdjL_spec : SpecOK Tryz.prog 216 (mkCall 4 medAdjL_i medAdjL_o medAdjL_r medAdjL) := call_spec E_medianL_ok Tryz.func216 (by kernel_rfl) (by kernel_rfl) rfl (fun v => (medAdjL_eq v).trans (medAdjL_okd v)) (LoopsOK_of medAdjL_q trivial)
def E_medAdjL : Env := E_medianL.extC 216 3 204 (mkCall 4 medAdjL_i medAdjL_o medAdjL_r medAdjL)
theorem E_medAdjL_ok : EnvOK Tryz.prog E_medAdjL := Env.extC_ok E_medianL_ok medAdjL_spec (mkCall_in rfl rfl)
-- slices.choosePivotCmpFunc[[]int]
abbrev pivotL_h : Hints := {  }
theorem pivotL_okd : ∀ v, pivotL_d v = pevCall Tryz.prog E_medAdjL pivotL_h Tryz.f210 pivotL_i pivotL_o pivotL_r v := by
 rintro ⟨a0, a1, a2, ⟨⟩⟩
 kernel_rfl
theorem pivotL_q : loopList (bodyOf Tryz.f210) 0 = [] := by kernel_rfl
theorem pivotL_spec : SpecOK Tryz.prog 210 (mkCall 4 pivotL_i pivotL_o pivotL_r pivotL) := call_spec E_medAdjL_ok Tryz.func210 (by kernel_rfl) (by kernel_rfl) rfl (fun v => (pivotL_eq v).trans (pivotL_okd v)) (LoopsOK_of pivotL_q trivial)
def E_pivotL : Env := E_medAdjL.extC 210 3 204 (mkCall 4 pivotL_i pivotL_o pivotL_r pivotL)
theorem E_pivotL_ok : EnvOK Tryz.prog E_pivotL := Env.extC_ok E_medAdjL_ok pivotL_spec (mkCall_in rfl rfl)
-- slices.reverseRangeCmpFunc[[]int]
abbrev revL_h : Hints := { loop := fun n => match n with | 0 => loopBy 1 34 revL_i0 revL_o0 revL_s0 | _ => fun _ _ _ => none, fp := fun n => match n with | 3 => [[], [], [], [], [], [], [0], [0], [], [], [0], [0], [0], [1], [0], [1]] | _ => [] }
theorem revL_s0_ok : ∀ v, revL_s0 v = roundOf Tryz.prog E_pivotL revL_h 1 1 34 (loopOf Tryz.f211 0) revL_i0 revL_o0 v := by
 rintro ⟨a0, a1, a2, ⟨⟩⟩
 kernel_rfl
theorem revL_q0 : loopList (loopOf Tryz.f211 0) 1 = [] := by kernel_rfl
theorem revL_l0 : CodeOK Tryz.prog 1 (.loop (loopOf Tryz.f211 0)) (revL_h.loop 0) := loop_ok E_pivotL_ok (revL_s0_ok) (LoopsOK_of revL_q0 trivial)
theorem revL_okd : ∀ v, revL_d v = pevCall Tryz.prog E_pivotL revL_h Tryz.f211 revL_i revL_o revL_r v := by
 rintro ⟨a0, a1, a2, ⟨⟩⟩
 kernel_rfl
theorem revL_q : loopList (bodyOf Tryz.f211) 0 = [(0, loopOf Tryz.f211 0)] := by kernel_rfl
theorem revL_spec : SpecOK Tryz.prog 211 (mkCall 4 revL_i revL_o revL_r revL) := call_spec E_pivotL_ok Tryz.func211 (by kernel_rfl) (by kernel_rfl) rfl (fun v => (revL_eq v).trans (revL_okd v)) (LoopsOK_of revL_q ⟨revL_l0, trivial⟩)
def E_revL : Env := E_pivotL.extC 211 3 204 (mkCall 4 revL_i revL_o revL_r revL)
theorem E_revL_ok : EnvOK Tryz.prog E_revL := Env.extC_ok E_pivotL_ok revL_spec (mkCall_in rfl rfl)
-- slices.partialInsertionSortCmpFunc[[]int]
abbrev partInsL_h : Hints := { loop := fun n => match n with | 0 => loopBy 1 141 partInsL_i0 partInsL_o0 partInsL_s0 | 1 => loopBy 1 141 partInsL_i1 partInsL_o1 partInsL_s1 | 2 => loopBy 1 141 partInsL_i2 partInsL_o2 partInsL_s2 | 3 => loopBy 1 141 partInsL_i3 partInsL_o3 partInsL_s3 | _ => fun _ _ _ => none, fp := fun n => match n with | 11 => [[], [], [], [], [], [], [], [], [0], [0], [], [], [0], [0], [0], [1], [0], [1]] | 5 => [[], [], [], [], [], [], [], [0], [0], [], [], [], [0], [0], [], [], [], []] | 17 => [[], [], [], [], [], [], [], [], [0], [0], [], [], [0], [0], [0], [1], [0], [1]] | 16 => [[], [], [], [0], [0], [], [], [], [0], [0], [], [], []] | 23 => [[], [], [], [], [], [], [], [], [0], [0], [], [], [0], [0], [0], [1], [0], [1]] | 22 => [[], [], [], [0], [0], [], [], [], [0], [0], [], [], []] | _ => [] }
theorem partInsL_s3_ok : ∀ v, partInsL_s3 v = roundOf Tryz.prog E_revL partInsL_h 4 1 141 (loopOf Tryz.f212 3) partInsL_i3 partInsL_o3 v := by
 rintro ⟨a0, a1, a2, a3, a4, a5, ⟨⟩⟩
 kernel_rfl
theorem partInsL_q3 : loopList (loopOf Tryz.f212 3) 4 = [] := by kernel_rfl
theorem partInsL_l3 : CodeOK Tryz.prog 1 (.loop (loopOf Tryz.f212 3)) (partInsL_h.loop 3) := loop_ok E_revL_ok (partInsL_s3_ok) (LoopsOK_of partInsL_q3 trivial)
theorem partInsL_s2_ok : ∀ v, partInsL_s2 v = roundOf Tryz.prog E_revL partInsL_h 3 1 141 (loopOf Tryz.f212 2) partInsL_i2 partInsL_o2 v := by
 rintro ⟨a0, a1, a2, a3, a4, a5, ⟨⟩⟩
 kernel_rfl
theorem partInsL_q2 : loopList (loopOf Tryz.f212 2) 3 = [] := by kernel_rfl
theorem partInsL_l2 : CodeOK Tryz.prog 1 (.loop (loopOf Tryz.f212 2)) (partInsL_h.loop 2) := loop_ok E_revL_ok (partInsL_s2_ok) (LoopsOK_of partInsL_q2 trivial)
theorem partInsL_s1_ok : ∀ v, partInsL_s1 v = roundOf Tryz.prog E_revL partInsL_h 2 1 141 (loopOf Tryz.f212 1) partInsL_i1 partInsL_o1 v := by
 rintro ⟨a0, a1, a2, a3, a4, ⟨⟩⟩
 kernel_rfl
theorem partInsL_q1 : loopList (loopOf Tryz.f212 1) 2 = [] := by kernel_rfl
theorem partInsL_l1 : CodeOK Tryz.prog 1 (.loop (loopOf Tryz.f212 1)) (partInsL_h.loop 1) := loop_ok E_revL_ok (partInsL_s1_ok) (LoopsOK_of partInsL_q1 trivial)
theorem partInsL_s0_ok : ∀ v, partInsL_s0 v = roundOf Tryz.prog E_revL partInsL_h 1 1 141 (loopOf Tryz.f212 0) partInsL_i0 partInsL_o0 v := by
 rintro ⟨a0, a1, a2, a3, a4, ⟨⟩⟩
 kernel_rfl
theorem partInsL_q0 : loopList (loopOf Tryz.f212 0) 1 = [(1, loopOf Tryz.f212 1), (2, loopOf Tryz.f212 2), (3, loopOf Tryz.f212 3)] := by kernel_rfl
theorem partInsL_l0 : CodeOK Tryz.prog 1 (.loop (loopOf Tryz.f212 0)) (partInsL_h.loop 0) := loop_ok E_revL_ok (partInsL_s0_ok) (LoopsOK_of partInsL_q0 ⟨partInsL_l1, partInsL_l2, partInsL_l3, trivial⟩)
theorem partInsL_okd : ∀ v, partInsL_d v = pevCall Tryz.prog E_revL partInsL_h Tryz.f212 partInsL_i partInsL_o partInsL_r v := by
 rintro ⟨a0, a1, a2, ⟨⟩⟩
 kernel_rfl
theorem partInsL_q : loopList (bodyOf Tryz.f212) 0 = [(0, loopOf Tryz.f212 0)] := by kernel_rfl
theorem partInsL_spec : SpecOK Tryz.prog 212 (mkCall 4 partInsL_i partInsL_o partInsL_r partInsL) := call_spec E_revL_ok Tryz.func212 (by kernel_rfl) (by kernel_rfl) rfl (fun v => (partInsL_eq v).trans (partInsL_okd v)) (LoopsOK_of partInsL_q ⟨partInsL_l0, trivial⟩)
def E_partInsL : Env := E_revL.extC 212 3 204 (mkCall 4 partInsL_i partInsL_o partInsL_r partInsL)
theorem E_partInsL_ok : EnvOK Tryz.prog E_partInsL := Env.extC_ok E_revL_ok partInsL_spec (mkCall_in rfl rfl)
-- slices.partitionEqualCmpFunc[[]int]
abbrev partEqL_h : Hints := { loop := fun n => match n with | 0 => loopBy 1 90 partEqL_i0 partEqL_o0 partEqL_s0 | 1 => loopBy 1 90 partEqL_i1 partEqL_o1 partEqL_s1 | 2 => loopBy 1 90 partEqL_i2 partEqL_o2 partEqL_s2 | _ => fun _ _ _ => none, fp := fun n => match n with | 8 => [[], [], [], [], [], [], [0], [0], [], [], [0], [0], [0], [1], [0], [1]] | 3 => [[], [], [], [], [], [], [], [0], [0], [], [], [0], [0], [], [], [], []] | 5 => [[], [], [], [], [], [], [], [0], [0], [], [], [0], [0], [], [], []] | 1 => [[], [], [], [], [], [], [0], [0], [], [], [0], [0], [0], [1], [0], [1]] | _ => [] }
theorem partEqL_s2_ok : ∀ v, partEqL_s2 v = roundOf Tryz.prog E_partInsL partEqL_h 3 1 90 (loopOf Tryz.f213 2) partEqL_i2 partEqL_o2 v := by
 rintro ⟨a0, a1, a2, a3, ⟨⟩⟩
 kernel_rfl
theorem partEqL_q2 : loopList (loopOf Tryz.f213 2) 3 = [] := by kernel_rfl
theorem partEqL_l2 : CodeOK Tryz.prog 1 (.loop (loopOf Tryz.f213 2)) (partEqL_h.loop 2) := loop_ok E_partInsL_ok (partEqL_s2_ok) (LoopsOK_of partEqL_q2 trivial)
theorem partEqL_s1_ok : ∀ v, partEqL_s1 v = roundOf Tryz.prog E_partInsL partEqL_h 2 1 90 (loopOf Tryz.f213 1) partEqL_i1 partEqL_o1 v := by
 rintro ⟨a0, a1, a2, a3, ⟨⟩⟩
 kernel_rfl
theorem partEqL_q1 : loopList (loopOf Tryz.f213 1) 2 = [] := by kernel_rfl
theorem partEqL_l1 : CodeOK Tryz.prog 1 (.loop (loopOf Tryz.f213 1)) (partEqL_h.loop 1) := loop_ok E_partInsL_ok (partEqL_s1_ok) (LoopsOK_of partEqL_q1 trivial)
theorem partEqL_s0_ok : ∀ v, partEqL_s0 v = roundOf Tryz.prog E_partInsL partEqL_h 1 1 90 (loopOf Tryz.f213 0) partEqL_i0 partEqL_o0 v := by
 rintro ⟨a0, a1, a2, a3, ⟨⟩⟩
 kernel_rfl
theorem partEqL_q0 : loopList (loopOf Tryz.f213 0) 1 = [(1, loopOf Tryz.f213 1), (2, loopOf Tryz.f213 2)] := by kernel_rfl
theorem partEqL_l0 : CodeOK Tryz.prog 1 (.loop (loopOf Tryz.f213 0)) (partEqL_h.loop 0) := loop_ok E_partInsL_ok (partEqL_s0_ok) (LoopsOK_of partEqL_q0 ⟨partEqL_l1, partEqL_l2, trivial⟩)
theorem partEqL_okd : ∀ v, partEqL_d v = pevCall Tryz.prog E_partInsL partEqL_h Tryz.f213 partEqL_i partEqL_o partEqL_r v := by
 rintro ⟨a0, a1, a2, a3, ⟨⟩⟩
 kernel_rfl
theorem partEqL_q : loopList (bodyOf Tryz.f213) 0 = [(0, loopOf Tryz.f213 0)] := by kernel_rfl
theorem partEqL_spec : SpecOK Tryz.prog 213 (mkCall 5 partEqL_i partEqL_o partEqL_r partEqL) := call_spec E_partInsL_ok Tryz.func213 (by kernel_rfl) (by kernel_rfl) rfl (fun v => (partEqL_eq v).trans (partEqL_okd v)) (LoopsOK_of partEqL_q ⟨partEqL_l0, trivial⟩)
def E_partEqL : Env := E_partInsL.extC 213 4 204 (mkCall 5 partEqL_i partEqL_o partEqL_r partEqL)
theorem E_partEqL_ok : EnvOK Tryz.prog E_partEqL := Env.extC_ok E_partInsL_ok partEqL_spec (mkCall_in rfl rfl)
-- slices.partitionCmpFunc[[]int]
abbrev partL_h : Hints := { loop := fun n => match n with | 0 => loopBy 1 178 partL_i0 partL_o0 partL_s0 | 1 => loopBy 1 178 partL_i1 partL_o1 partL_s1 | 2 => loopBy 1 178 partL_i2 partL_o2 partL_s2 | 3 => loopBy 1 178 partL_i3 partL_o3 partL_s3 | 4 => loopBy 1 178 partL_i4 partL_o4 partL_s4 | _ => fun _ _ _ => none, fp := fun n => match n with | 3 => [[], [], [], [], [], [], [], [0], [0], [], [], [0], [0], [], [], []] | 5 => [[], [], [], [], [], [], [], [0], [0], [], [], [0], [0], [], [], [], []] | 18 => [[], [], [], [], [], [], [0], [0], [], [], [0], [0], [0], [1], [0], [1]] | 13 => [[], [], [], [], [], [], [], [0], [0], [], [], [0], [0], [], [], []] | 15 => [[], [], [], [], [], [], [], [0], [0], [], [], [0], [0], [], [], [], []] | 21 => [[], [], [], [], [], [], [0], [0], [], [], [0], [0], [0], [1], [0], [1]] | 10 => [[], [], [], [], [], [], [0], [0], [], [], [0], [0], [0], [1], [0], [1]] | 8 => [[], [], [], [], [], [], [0], [0], [], [], [0], [0], [0], [1], [0], [1]] | 1 => [[], [], [], [], [], [], [0], [0], [], [], [0], [0], [0], [1], [0], [1]] | _ => [] }
theorem partL_s4_ok : ∀ v, partL_s4 v = roundOf Tryz.prog E_partEqL partL_h 5 1 178 (loopOf Tryz.f214 4) partL_i4 partL_o4 v := by
 rintro ⟨a0, a1, a2, a3, ⟨⟩⟩
 kernel_rfl
theorem partL_q4 : loopList (loopOf Tryz.f214 4) 5 = [] := by kernel_rfl
theorem partL_l4 : CodeOK Tryz.prog 1 (.loop (loopOf Tryz.f214 4)) (partL_h.loop 4) := loop_ok E_partEqL_ok (partL_s4_ok) (LoopsOK_of partL_q4 trivial)
theorem partL_s3_ok : ∀ v, partL_s3 v = roundOf Tryz.prog E_partEqL partL_h 4 1 178 (loopOf Tryz.f214 3) partL_i3 partL_o3 v := by
 rintro ⟨a0, a1, a2, a3, ⟨⟩⟩
 kernel_rfl
theorem partL_q3 : loopList (loopOf Tryz.f214 3) 4 = [] := by kernel_rfl
theorem partL_l3 : CodeOK Tryz.prog 1 (.loop (loopOf Tryz.f214 3)) (partL_h.loop 3) := loop_ok E_partEqL_ok (partL_s3_ok) (LoopsOK_of partL_q3 trivial)
theorem partL_s2_ok : ∀ v, partL_s2 v = roundOf Tryz.prog E_partEqL partL_h 3 1 178 (loopOf Tryz.f214 2) partL_i2 partL_o2 v := by
 rintro ⟨a0, a1, a2, a3, ⟨⟩⟩
 kernel_rfl
theorem partL_q2 : loopList (loopOf Tryz.f214 2) 3 = [(3, loopOf Tryz.f214 3), (4, loopOf Tryz.f214 4)] := by kernel_rfl
theorem partL_l2 : CodeOK Tryz.prog 1 (.loop (loopOf Tryz.f214 2)) (partL_h.loop 2) := loop_ok E_partEqL_ok (partL_s2_ok) (LoopsOK_of partL_q2 ⟨partL_l3, partL_l4, trivial⟩)
theorem partL_s1_ok : ∀ v, partL_s1 v = roundOf Tryz.prog E_partEqL partL_h 2 1 178 (loopOf Tryz.f214 1) partL_i1 partL_o1 v := by
 rintro ⟨a0, a1, a2, a3, ⟨⟩⟩
 kernel_rfl
theorem partL_q1 : loopList (loopOf Tryz.f214 1) 2 = [] := by kernel_rfl
theorem partL_l1 : CodeOK Tryz.prog 1 (.loop (loopOf Tryz.f214 1)) (partL_h.loop 1) := loop_ok E_partEqL_ok (partL_s1_ok) (LoopsOK_of partL_q1 trivial)
theorem partL_s0_ok : ∀ v, partL_s0 v = roundOf Tryz.prog E_partEqL partL_h 1 1 178 (loopOf Tryz.f214 0) partL_i0 partL_o0 v := by
 rintro ⟨a0, a1, a2, a3, ⟨⟩⟩
 kernel_rfl
theorem partL_q0 : loopList (loopOf Tryz.f214 0) 1 = [] := by kernel_rfl
theorem partL_l0 : CodeOK Tryz.prog 1 (.loop (loopOf Tryz.f214 0)) (partL_h.loop 0) := loop_ok E_partEqL_ok (partL_s0_ok) (LoopsOK_of partL_q0 trivial)
theorem partL_okd : ∀ v, partL_d v = pevCall Tryz.prog E_partEqL partL_h Tryz.f214 partL_i partL_o partL_r v := by
 rintro ⟨a0, a1, a2, a3, ⟨⟩⟩
 kernel_rfl
theorem partL_q : loopList (bodyOf Tryz.f214) 0 = [(0, loopOf Tryz.f214 0), (1, loopOf Tryz.f214 1), (2, loopOf Tryz.f214 2)] := by kernel_rfl
theorem partL_spec : SpecOK Tryz.prog 214 (mkCall 5 partL_i partL_o partL_r partL) := call_spec E_partEqL_ok Tryz.func214 (by kernel_rfl) (by kernel_rfl) rfl (fun v => (partL_eq v).trans (partL_okd v)) (LoopsOK_of partL_q ⟨partL_l0, partL_l1, partL_l2, trivial⟩)
def E_partL : Env := E_partEqL.extC 214 4 204 (mkCall 5 partL_i partL_o partL_r partL)
theorem E_partL_ok : EnvOK Tryz.prog E_partL := Env.extC_ok E_partEqL_ok partL_spec (mkCall_in rfl rfl)
-- slices.pdqsortCmpFunc[[]int]
abbrev pdqL_h (self : (List (List Int) × Int × Int × Int × Unit) → Option ((List (List Int) × Unit))) : Hints := { loop := fun n => match n with | 0 => loopBy 1 148 pdqL_i0 pdqL_o0 (pdqL_s0 self) | _ => fun _ _ _ => none, fp := fun n => match n with | 17 => [[], [], [], [], [], [], [], [0], [0], [], [], [0], [0], [], [], [], []] | _ => [] }
abbrev pdqL_E (self : (List (List Int) × Int × Int × Int × Unit) → Option ((List (List Int) × Unit))) : Env := E_partL.ext 206 false true (mkCall 5 pdqL_i pdqL_o pdqL_r self)
theorem pdqL_s0_ok (self : (List (List Int) × Int × Int × Int × Unit) → Option ((List (List Int) × Unit))) : ∀ v, pdqL_s0 self v = roundOf Tryz.prog (pdqL_E self) (pdqL_h self) 1 1 148 (loopOf Tryz.f206 0) pdqL_i0 pdqL_o0 v := by
 rintro ⟨a0, a1, a2, a3, a4, a5, ⟨⟩⟩
 kernel_rfl
theorem pdqL_q0 : loopList (loopOf Tryz.f206 0) 1 = [] := by kernel_rfl
theorem pdqL_l0 (self : (List (List Int) × Int × Int × Int × Unit) → Option ((List (List Int) × Unit))) (hE : EnvOK Tryz.prog (pdqL_E self)) : CodeOK Tryz.prog 1 (.loop (loopOf Tryz.f206 0)) ((pdqL_h self).loop 0) := loop_ok hE (pdqL_s0_ok self) (LoopsOK_of pdqL_q0 trivial)
theorem pdqL_okd (self : (List (List Int) × Int × Int × Int × Unit) → Option ((List (List Int) × Unit))) : ∀ v, pdqL_d self v = pevCall Tryz.prog (pdqL_E self) (pdqL_h self) Tryz.f206 pdqL_i pdqL_o pdqL_r v := by
 rintro ⟨a0, a1, a2, a3, ⟨⟩⟩
 kernel_rfl
theorem pdqL_q : loopList (bodyOf Tryz.f206) 0 = [(0, loopOf Tryz.f206 0)] := by kernel_rfl
theorem pdqL_fspec : ∀ n, SpecOK Tryz.prog 206 (mkCall 5 pdqL_i pdqL_o pdqL_r (pdqL_f n)) := by
 intro n
 induction n with
 | zero => exact mkCall_none fun _ => rfl
 | succ n ih =>
  have hE : EnvOK Tryz.prog (pdqL_E (pdqL_f n)) := Env.ext_ok E_partL_ok ih ((by simp)) (fun _ => mkCall_in rfl rfl)
  let self := pdqL_f n
  exact call_spec hE Tryz.func206 (by kernel_rfl) (by kernel_rfl) rfl (pdqL_okd self) (LoopsOK_of pdqL_q ⟨(pdqL_l0 self hE), trivial⟩)
theorem pdqL_spec : SpecOK Tryz.prog 206 (mkCall 5 pdqL_i pdqL_o pdqL_r pdqL) := by
 have e : pdqL = pdqL_f 100 := funext pdqL_eq
 rw [e]
 exact pdqL_fspec _
def E_pdqL : Env := E_partL.extC 206 4 204 (mkCall 5 pdqL_i pdqL_o pdqL_r pdqL)
theorem E_pdqL_ok : EnvOK Tryz.prog E_pdqL := Env.extC_ok E_partL_ok pdqL_spec (mkCall_in rfl rfl)
-- slices.SortFunc[[][]int,[]int]
abbrev sortL_h : Hints := {  }
theorem sortL_okd : ∀ v, sortL_d v = pevCall Tryz.prog E_pdqL sortL_h Tryz.f203 sortL_i sortL_o sortL_r v := by
 rintro ⟨a0, ⟨⟩⟩
 kernel_rfl
theorem sortL_q : loopList (bodyOf Tryz.f203) 0 = [] := by kernel_rfl
theorem sortL_spec : SpecOK Tryz.prog 203 (mkCall 2 sortL_i sortL_o sortL_r sortL) := call_spec E_pdqL_ok Tryz.func203 (by kernel_rfl) (by kernel_rfl) rfl (fun v => (sortL_eq v).trans (sortL_okd v)) (LoopsOK_of sortL_q trivial)
def E_sortL : Env := E_pdqL.extC 203 1 204 (mkCall 2 sortL_i sortL_o sortL_r sortL)
theorem E_sortL_ok : EnvOK Tryz.prog E_sortL := Env.extC_ok E_pdqL_ok sortL_spec (mkCall_in rfl rfl)
-- archipelago/tour.with
abbrev twith_h : Hints := { loop := fun n => match n with | 0 => loopBy 0 47 twith_i0 twith_o0 twith_s0 | 1 => loopBy 0 47 twith_i1 twith_o1 twith_s1 | _ => fun _ _ _ => none }
theorem twith_s1_ok : ∀ v, twith_s1 v = roundOf Tryz.prog E_sortL twith_h 2 0 47 (loopOf Tryz.f188 1) twith_i1 twith_o1 v := by
 rintro ⟨a0, a1, a2, a3, a4, a5, a6, ⟨⟩⟩
 kernel_rfl
theorem twith_q1 : loopList (loopOf Tryz.f188 1) 2 = [] := by kernel_rfl
theorem twith_l1 : CodeOK Tryz.prog 0 (.loop (loopOf Tryz.f188 1)) (twith_h.loop 1) := loop_ok E_sortL_ok (twith_s1_ok) (LoopsOK_of twith_q1 trivial)
theorem twith_s0_ok : ∀ v, twith_s0 v = roundOf Tryz.prog E_sortL twith_h 1 0 47 (loopOf Tryz.f188 0) twith_i0 twith_o0 v := by
 rintro ⟨a0, a1, a2, a3, a4, a5, a6, a7, a8, ⟨⟩⟩
 kernel_rfl
theorem twith_q0 : loopList (loopOf Tryz.f188 0) 1 = [] := by kernel_rfl
theorem twith_l0 : CodeOK Tryz.prog 0 (.loop (loopOf Tryz.f188 0)) (twith_h.loop 0) := loop_ok E_sortL_ok (twith_s0_ok) (LoopsOK_of twith_q0 trivial)
theorem twith_okd : ∀ v, twith_d v = pevCall Tryz.prog E_sortL twith_h Tryz.f188 twith_i twith_o twith_r v := by
 rintro ⟨a0, a1, a2, ⟨⟩⟩
 kernel_rfl
theorem twith_q : loopList (bodyOf Tryz.f188) 0 = [(0, loopOf Tryz.f188 0), (1, loopOf Tryz.f188 1)] := by kernel_rfl
theorem twith_spec : SpecOK Tryz.prog 188 (mkCall 3 twith_i twith_o twith_r twith) := call_spec E_sortL_ok Tryz.func188 (by kernel_rfl) (by kernel_rfl) rfl (fun v => (twith_eq v).trans (twith_okd v)) (LoopsOK_of twith_q ⟨twith_l0, twith_l1, trivial⟩)
def E_twith : Env := E_sortL.ext 188 true true (mkCall 3 twith_i twith_o twith_r twith)
theorem E_twith_ok : EnvOK Tryz.prog E_twith := Env.ext_ok E_sortL_ok twith_spec (fun _ => mkCall_local rfl rfl) (fun _ => mkCall_in rfl rfl)
end
end Go.Pev
end
section
namespace Go.Pev
open Go.Proofs
set_option maxRecDepth 100000
noncomputable section
-- archipelago/tour.Link
abbrev tlink_h : Hints := { fp := fun n => match n with | 9 => [[], [28], [0], [0], [], [], [], [], [], [0], [0], [], [], [], [], [], [28], [28, 52, 36, 62], [64], []] | 4 => [[0], [], [], [0], [], [], [], []] | _ => [] }
theorem tlink_okd : ∀ v, tlink_d v = pevCall Tryz.prog E_twith tlink_h Tryz.f161 tlink_i tlink_o tlink_r v := by
 rintro ⟨a0, a1, a2, ⟨⟩⟩
 kernel_rfl
theorem tlink_q : loopList (bodyOf Tryz.f161) 0 = [] := by kernel_rfl
theorem tlink_spec : SpecOK Tryz.prog 161 (mkCall 3 tlink_i tlink_o tlink_r tlink) := call_spec E_twith_ok Tryz.func161 (by kernel_rfl) (by kernel_rfl) rfl (fun v => (tlink_eq v).trans (tlink_okd v)) (LoopsOK_of tlink_q trivial)
def E_tlink : Env := E_twith.ext 161 true true (mkCall 3 tlink_i tlink_o tlink_r tlink)
theorem E_tlink_ok : EnvOK Tryz.prog E_tlink := Env.ext_ok E_twith_ok tlink_spec (fun _ => mkCall_local rfl rfl) (fun _ => mkCall_in rfl rfl)
-- archipelago/forest.there$1: gone through in place
theorem there1_b : Tryz.f155.body.isSome = true := by kernel_rfl
theorem there1_n : (Tryz.f155.name == "runtime.NumGoroutine") = false := by kernel_rfl
theorem there1_z : loops (bodyOf Tryz.f155) = 0 := by kernel_rfl
def E_there1_4 : Env := E_tlink.ext 155 false false (mkInline Tryz.prog E_tlink {} Tryz.f155)
theorem E_there1_4_ok : EnvOK Tryz.prog E_there1_4 := Env.ext_ok E_tlink_ok (inline_spec E_tlink_ok Tryz.func155 there1_b there1_n there1_z) (by simp) (by simp)
-- slices.IndexFunc[[]int,int]
abbrev idxFuncI_there_h : Hints := { loop := fun n => match n with | 0 => loopBy 1 19 idxFuncI_there_i0 idxFuncI_there_o0 idxFuncI_there_s0 | _ => fun _ _ _ => none }
theorem idxFuncI_there_s0_ok : ∀ v, idxFuncI_there_s0 v = roundOf Tryz.prog E_there1_4 idxFuncI_there_h 1 1 19 (loopOf Tryz.f174 0) idxFuncI_there_i0 idxFuncI_there_o0 v := by
 rintro ⟨a0, a1, a2, a3, a4, ⟨⟩⟩
 kernel_rfl
theorem idxFuncI_there_q0 : loopList (loopOf Tryz.f174 0) 1 = [] := by kernel_rfl
theorem idxFuncI_there_l0 : CodeOK Tryz.prog 1 (.loop (loopOf Tryz.f174 0)) (idxFuncI_there_h.loop 0) := loop_ok E_there1_4_ok (idxFuncI_there_s0_ok) (LoopsOK_of idxFuncI_there_q0 trivial)
theorem idxFuncI_there_okd : ∀ v, idxFuncI_there_d v = pevCall Tryz.prog E_there1_4 idxFuncI_there_h Tryz.f174 idxFuncI_there_i idxFuncI_there_o idxFuncI_there_r v := by
 rintro ⟨a0, a1, a2, ⟨⟩⟩
 kernel_rfl
theorem idxFuncI_there_q : loopList (bodyOf Tryz.f174) 0 = [(0, loopOf Tryz.f174 0)] := by kernel_rfl
theorem idxFuncI_there_spec : SpecOK Tryz.prog 174 (mkCall 2 idxFuncI_there_i idxFuncI_there_o idxFuncI_there_r idxFuncI_there) := call_spec E_there1_4_ok Tryz.func174 (by kernel_rfl) (by kernel_rfl) rfl (fun v => (idxFuncI_there_eq v).trans (idxFuncI_there_okd v)) (LoopsOK_of idxFuncI_there_q ⟨idxFuncI_there_l0, trivial⟩)
def E_idxFuncI_there : Env := E_there1_4.extC 174 1 155 (mkCall 2 idxFuncI_there_i idxFuncI_there_o idxFuncI_there_r idxFuncI_there)
theorem E_idxFuncI_there_ok : EnvOK Tryz.prog E_idxFuncI_there := Env.extC_ok E_there1_4_ok idxFuncI_there_spec (mkCall_in rfl rfl)
-- slices.ContainsFunc[[]int,int]
abbrev contFuncI_there_h : Hints := {  }
theorem contFuncI_there_okd : ∀ v, contFuncI_there_d v = pevCall Tryz.prog E_idxFuncI_there contFuncI_there_h Tryz.f154 contFuncI_there_i contFuncI_there_o contFuncI_there_r v := by
 rintro ⟨a0, a1, a2, ⟨⟩⟩
 kernel_rfl
theorem contFuncI_there_q : loopList (bodyOf Tryz.f154) 0 = [] := by kernel_rfl
theorem contFuncI_there_spec : SpecOK Tryz.prog 154 (mkCall 2 contFuncI_there_i contFuncI_there_o contFuncI_there_r contFuncI_there) := call_spec E_idxFuncI_there_ok Tryz.func154 (by kernel_rfl) (by kernel_rfl) rfl (fun v => (contFuncI_there_eq v).trans (contFuncI_there_okd v)) (LoopsOK_of contFuncI_there_q trivial)
def E_contFuncI_there : Env := E_idxFuncI_there.extC 154 1 155 (mkCall 2 contFuncI_there_i contFuncI_there_o contFuncI_there_r contFuncI_there)
theorem E_contFuncI_there_ok : EnvOK Tryz.prog E_contFuncI_there := Env.extC_ok E_idxFuncI_there_ok contFuncI_there_spec (mkCall_in rfl rfl)
-- archipelago/forest.there
abbrev fthere_h : Hints := {  }
theorem fthere_okd : ∀ v, fthere_d v = pevCall Tryz.prog E_contFuncI_there fthere_h Tryz.f125 fthere_i fthere_o fthere_r v := by
 rintro ⟨a0, a1, ⟨⟩⟩
 kernel_rfl
theorem fthere_q : loopList (bodyOf Tryz.f125) 0 = [] := by kernel_rfl
theorem fthere_spec : SpecOK Tryz.prog 125 (mkCall 2 fthere_i fthere_o fthere_r fthere) := call_spec E_contFuncI_there_ok Tryz.func125 (by kernel_rfl) (by kernel_rfl) rfl (fun v => (fthere_eq v).trans (fthere_okd v)) (LoopsOK_of fthere_q trivial)
def E_fthere : Env := E_contFuncI_there.ext 125 true true (mkCall 2 fthere_i fthere_o fthere_r fthere)
theorem E_fthere_ok : EnvOK Tryz.prog E_fthere := Env.ext_ok E_contFuncI_there_ok fthere_spec (fun _ => mkCall_local rfl rfl) (fun _ => mkCall_in rfl rfl)
-- archipelago/forest.ends
abbrev ends_h : Hints := { loop := fun n => match n with | 0 => loopBy 0 21 ends_i0 ends_o0 ends_s0 | _ => fun _ _ _ => none }
theorem ends_s0_ok : ∀ v, ends_s0 v = roundOf Tryz.prog E_fthere ends_h 1 0 21 (loopOf Tryz.f183 0) ends_i0 ends_o0 v := by
 rintro ⟨a0, a1, a2, a3, ⟨⟩⟩
 kernel_rfl
theorem ends_q0 : loopList (loopOf Tryz.f183 0) 1 = [] := by kernel_rfl
theorem ends_l0 : CodeOK Tryz.prog 0 (.loop (loopOf Tryz.f183 0)) (ends_h.loop 0) := loop_ok E_fthere_ok (ends_s0_ok) (LoopsOK_of ends_q0 trivial)
theorem ends_okd : ∀ v, ends_d v = pevCall Tryz.prog E_fthere ends_h Tryz.f183 ends_i ends_o ends_r v := by
 rintro ⟨a0, ⟨⟩⟩
 kernel_rfl
theorem ends_q : loopList (bodyOf Tryz.f183) 0 = [(0, loopOf Tryz.f183 0)] := by kernel_rfl
theorem ends_spec : SpecOK Tryz.prog 183 (mkCall 1 ends_i ends_o ends_r ends) := call_spec E_fthere_ok Tryz.func183 (by kernel_rfl) (by kernel_rfl) rfl (fun v => (ends_eq v).trans (ends_okd v)) (LoopsOK_of ends_q ⟨ends_l0, trivial⟩)
def E_ends : Env := E_fthere.ext 183 true true (mkCall 1 ends_i ends_o ends_r ends)
theorem E_ends_ok : EnvOK Tryz.prog E_ends := Env.ext_ok E_fthere_ok ends_spec (fun _ => mkCall_local rfl rfl) (fun _ => mkCall_in rfl rfl)
-- archipelago/forest.each
abbrev eachLink_h : Hints := { loop := fun n => match n with | 0 => loopBy 0 48 eachLink_i0 eachLink_o0 eachLink_s0 | _ => fun _ _ _ => none, fp := fun n => match n with | 1 => [[0], [], [], [4], []] | _ => [] }
theorem eachLink_s0_ok : ∀ v, eachLink_s0 v = roundOf Tryz.prog E_ends eachLink_h 1 0 48 (loopOf Tryz.f160 0) eachLink_i0 eachLink_o0 v := by
 rintro ⟨a0, a1, a2, a3, a4, a5, a6, ⟨⟩⟩
 kernel_rfl
theorem eachLink_q0 : loopList (loopOf Tryz.f160 0) 1 = [] := by kernel_rfl
theorem eachLink_l0 : CodeOK Tryz.prog 0 (.loop (loopOf Tryz.f160 0)) (eachLink_h.loop 0) := loop_ok E_ends_ok (eachLink_s0_ok) (LoopsOK_of eachLink_q0 trivial)
theorem eachLink_okd : ∀ v, eachLink_d v = pevCall Tryz.prog E_ends eachLink_h Tryz.f160 eachLink_i eachLink_o eachLink_r v := by
 rintro ⟨a0, a1, ⟨⟩⟩
 kernel_rfl
theorem eachLink_q : loopList (bodyOf Tryz.f160) 0 = [(0, loopOf Tryz.f160 0)] := by kernel_rfl
theorem eachLink_spec : SpecOK Tryz.prog 160 (mkCall 3 eachLink_i eachLink_o eachLink_r eachLink) := call_spec E_ends_ok Tryz.func160 (by kernel_rfl) (by kernel_rfl) rfl (fun v => (eachLink_eq v).trans (eachLink_okd v)) (LoopsOK_of eachLink_q ⟨eachLink_l0, trivial⟩)
def E_eachLink : Env := E_ends.extC 160 2 161 (mkCall 3 eachLink_i eachLink_o eachLink_r eachLink)
theorem E_eachLink_ok : EnvOK Tryz.prog E_eachLink := Env.extC_ok E_ends_ok eachLink_spec (mkCall_in rfl rfl)
-- archipelago/forest.Links
abbrev flinks_h : Hints := {  }
theorem flinks_okd : ∀ v, flinks_d v = pevCall Tryz.prog E_eachLink flinks_h Tryz.f130 flinks_i flinks_o flinks_r v := by
 rintro ⟨a0, a1, ⟨⟩⟩
 kernel_rfl
theorem flinks_q : loopList (bodyOf Tryz.f130) 0 = [] := by kernel_rfl
theorem flinks_spec : SpecOK Tryz.prog 130 (mkCall 2 flinks_i flinks_o flinks_r flinks) := call_spec E_eachLink_ok Tryz.func130 (by kernel_rfl) (by kernel_rfl) rfl (fun v => (flinks_eq v).trans (flinks_okd v)) (LoopsOK_of flinks_q trivial)
def E_flinks : Env := E_eachLink.ext 130 true true (mkCall 2 flinks_i flinks_o flinks_r flinks)
theorem E_flinks_ok : EnvOK Tryz.prog E_flinks := Env.ext_ok E_eachLink_ok flinks_spec (fun _ => mkCall_local rfl rfl) (fun _ => mkCall_in rfl rfl)
-- archipelago/forest.Of
abbrev fof_h : Hints := {  }
theorem fof_okd : ∀ v, fof_d v = pevCall Tryz.prog E_flinks fof_h Tryz.f92 fof_i fof_o fof_r v := by
 rintro ⟨a0, a1, ⟨⟩⟩
 kernel_rfl
theorem fof_q : loopList (bodyOf Tryz.f92) 0 = [] := by kernel_rfl
theorem fof_spec : SpecOK Tryz.prog 92 (mkCall 2 fof_i fof_o fof_r fof) := call_spec E_flinks_ok Tryz.func92 (by kernel_rfl) (by kernel_rfl) rfl (fun v => (fof_eq v).trans (fof_okd v)) (LoopsOK_of fof_q trivial)
def E_fof : Env := E_flinks.ext 92 true true (mkCall 2 fof_i fof_o fof_r fof)
theorem E_fof_ok : EnvOK Tryz.prog E_fof := Env.ext_ok E_flinks_ok fof_spec (fun _ => mkCall_local rfl rfl) (fun _ => mkCall_in rfl rfl)
-- cmp.Or[int]
abbrev orI_h : Hints := { loop := fun n => match n with | 0 => loopBy 0 18 orI_i0 orI_o0 orI_s0 | _ => fun _ _ _ => none }
theorem orI_s0_ok : ∀ v, orI_s0 v = roundOf Tryz.prog E_fof orI_h 1 0 18 (loopOf Tryz.f114 0) orI_i0 orI_o0 v := by
 rintro ⟨a0, a1, a2, a3, ⟨⟩⟩
 kernel_rfl
theorem orI_q0 : loopList (loopOf Tryz.f114 0) 1 = [] := by kernel_rfl
theorem orI_l0 : CodeOK Tryz.prog 0 (.loop (loopOf Tryz.f114 0)) (orI_h.loop 0) := loop_ok E_fof_ok (orI_s0_ok) (LoopsOK_of orI_q0 trivial)
theorem orI_okd : ∀ v, orI_d v = pevCall Tryz.prog E_fof orI_h Tryz.f114 orI_i orI_o orI_r v := by
 rintro ⟨a0, ⟨⟩⟩
 kernel_rfl
theorem orI_q : loopList (bodyOf Tryz.f114) 0 = [(0, loopOf Tryz.f114 0)] := by kernel_rfl
theorem orI_spec : SpecOK Tryz.prog 114 (mkCall 1 orI_i orI_o orI_r orI) := call_spec E_fof_ok Tryz.func114 (by kernel_rfl) (by kernel_rfl) rfl (fun v => (orI_eq v).trans (orI_okd v)) (LoopsOK_of orI_q ⟨orI_l0, trivial⟩)
def E_orI : Env := E_fof.ext 114 true true (mkCall 1 orI_i orI_o orI_r orI)
theorem E_orI_ok : EnvOK Tryz.prog E_orI := Env.ext_ok E_fof_ok orI_spec (fun _ => mkCall_local rfl rfl) (fun _ => mkCall_in rfl rfl)
-- archipelago/level.sized
abbrev lsized_h : Hints := {  }
theorem lsized_okd : ∀ v, lsized_d v = pevCall Tryz.prog E_orI lsized_h Tryz.f97 lsized_i lsized_o lsized_r v := by
 rintro ⟨a0, ⟨⟩⟩
 kernel_rfl
theorem lsized_q : loopList (bodyOf Tryz.f97) 0 = [] := by kernel_rfl
theorem lsized_spec : SpecOK Tryz.prog 97 (mkCall 1 lsized_i lsized_o lsized_r lsized) := call_spec E_orI_ok Tryz.func97 (by kernel_rfl) (by kernel_rfl) rfl (fun v => (lsized_eq v).trans (lsized_okd v)) (LoopsOK_of lsized_q trivial)
def E_lsized : Env := E_orI.ext 97 true true (mkCall 1 lsized_i lsized_o lsized_r lsized)
theorem E_lsized_ok : EnvOK Tryz.prog E_lsized := Env.ext_ok E_orI_ok lsized_spec (fun _ => mkCall_local rfl rfl) (fun _ => mkCall_in rfl rfl)
-- archipelago/level.Top
abbrev ltop_h : Hints := {  }
theorem ltop_okd : ∀ v, ltop_d v = pevCall Tryz.prog E_lsized ltop_h Tryz.f53 ltop_i ltop_o ltop_r v := by
 rintro ⟨a0, ⟨⟩⟩
 kernel_rfl
theorem ltop_q : loopList (bodyOf Tryz.f53) 0 = [] := by kernel_rfl
theorem ltop_spec : SpecOK Tryz.prog 53 (mkCall 1 ltop_i ltop_o ltop_r ltop) := call_spec E_lsized_ok Tryz.func53 (by kernel_rfl) (by kernel_rfl) rfl (fun v => (ltop_eq v).trans (ltop_okd v)) (LoopsOK_of ltop_q trivial)
def E_ltop : Env := E_lsized.ext 53 true true (mkCall 1 ltop_i ltop_o ltop_r ltop)
theorem E_ltop_ok : EnvOK Tryz.prog E_ltop := Env.ext_ok E_lsized_ok ltop_spec (fun _ => mkCall_local rfl rfl) (fun _ => mkCall_in rfl rfl)
end
end Go.Pev
end
section
namespace Go.Pev
open Go.Proofs
set_option maxRecDepth 100000
noncomputable section
-- archipelago/level.compare
abbrev lcompare_h : Hints := { fp := fun n => match n with | 1 => [[0], [0], [2], [2], [], [0], [0], [2], [2], [], [], [20], []] | _ => [] }
theorem lcompare_okd : ∀ v, lcompare_d v = pevCall Tryz.prog E_ltop lcompare_h Tryz.f98 lcompare_i lcompare_o lcompare_r v := by
 rintro ⟨a0, a1, ⟨⟩⟩
 kernel_rfl
theorem lcompare_q : loopList (bodyOf Tryz.f98) 0 = [] := by kernel_rfl
theorem lcompare_spec : SpecOK Tryz.prog 98 (mkCall 2 lcompare_i lcompare_o lcompare_r lcompare) := call_spec E_ltop_ok Tryz.func98 (by kernel_rfl) (by kernel_rfl) rfl (fun v => (lcompare_eq v).trans (lcompare_okd v)) (LoopsOK_of lcompare_q trivial)
def E_lcompare : Env := E_ltop.ext 98 true true (mkCall 2 lcompare_i lcompare_o lcompare_r lcompare)
theorem E_lcompare_ok : EnvOK Tryz.prog E_lcompare := Env.ext_ok E_ltop_ok lcompare_spec (fun _ => mkCall_local rfl rfl) (fun _ => mkCall_in rfl rfl)
-- archipelago/level.trees
abbrev ltrees_h : Hints := { loop := fun n => match n with | 0 => loopBy 0 33 ltrees_i0 ltrees_o0 ltrees_s0 | _ => fun _ _ _ => none }
theorem ltrees_s0_ok : ∀ v, ltrees_s0 v = roundOf Tryz.prog E_lcompare ltrees_h 1 0 33 (loopOf Tryz.f93 0) ltrees_i0 ltrees_o0 v := by
 rintro ⟨a0, a1, a2, a3, a4, ⟨⟩⟩
 kernel_rfl
theorem ltrees_q0 : loopList (loopOf Tryz.f93 0) 1 = [] := by kernel_rfl
theorem ltrees_l0 : CodeOK Tryz.prog 0 (.loop (loopOf Tryz.f93 0)) (ltrees_h.loop 0) := loop_ok E_lcompare_ok (ltrees_s0_ok) (LoopsOK_of ltrees_q0 trivial)
theorem ltrees_okd : ∀ v, ltrees_d v = pevCall Tryz.prog E_lcompare ltrees_h Tryz.f93 ltrees_i ltrees_o ltrees_r v := by
 rintro ⟨a0, a1, ⟨⟩⟩
 kernel_rfl
theorem ltrees_q : loopList (bodyOf Tryz.f93) 0 = [(0, loopOf Tryz.f93 0)] := by kernel_rfl
theorem ltrees_spec : SpecOK Tryz.prog 93 (mkCall 2 ltrees_i ltrees_o ltrees_r ltrees) := call_spec E_lcompare_ok Tryz.func93 (by kernel_rfl) (by kernel_rfl) rfl (fun v => (ltrees_eq v).trans (ltrees_okd v)) (LoopsOK_of ltrees_q ⟨ltrees_l0, trivial⟩)
def E_ltrees : Env := E_lcompare.ext 93 true true (mkCall 2 ltrees_i ltrees_o ltrees_r ltrees)
theorem E_ltrees_ok : EnvOK Tryz.prog E_ltrees := Env.ext_ok E_lcompare_ok ltrees_spec (fun _ => mkCall_local rfl rfl) (fun _ => mkCall_in rfl rfl)
-- archipelago/level.Right
abbrev lright_h : Hints := { loop := fun n => match n with | 0 => loopBy 0 96 lright_i0 lright_o0 lright_s0 | _ => fun _ _ _ => none, fp := fun n => match n with | 7 => [[2], [2], [], [], [2], [2], [2], [2], [], [], [], [2], [2], [0], [0], [], [], [], [2], [2], [], [], [], [2], [2], [], [], [], [], [], [], [], [0], [0], [], [], [], [], [2], [], [], [], []] | _ => [] }
theorem lright_s0_ok : ∀ v, lright_s0 v = roundOf Tryz.prog E_ltrees lright_h 1 0 96 (loopOf Tryz.f49 0) lright_i0 lright_o0 v := by
 rintro ⟨a0, a1, a2, a3, a4, a5, ⟨⟩⟩
 kernel_rfl
theorem lright_q0 : loopList (loopOf Tryz.f49 0) 1 = [] := by kernel_rfl
theorem lright_l0 : CodeOK Tryz.prog 0 (.loop (loopOf Tryz.f49 0)) (lright_h.loop 0) := loop_ok E_ltrees_ok (lright_s0_ok) (LoopsOK_of lright_q0 trivial)
theorem lright_okd : ∀ v, lright_d v = pevCall Tryz.prog E_ltrees lright_h Tryz.f49 lright_i lright_o lright_r v := by
 rintro ⟨a0, ⟨⟩⟩
 kernel_rfl
theorem lright_q : loopList (bodyOf Tryz.f49) 0 = [(0, loopOf Tryz.f49 0)] := by kernel_rfl
theorem lright_spec : SpecOK Tryz.prog 49 (mkCall 1 lright_i lright_o lright_r lright) := call_spec E_ltrees_ok Tryz.func49 (by kernel_rfl) (by kernel_rfl) rfl (fun v => (lright_eq v).trans (lright_okd v)) (LoopsOK_of lright_q ⟨lright_l0, trivial⟩)
def E_lright : Env := E_ltrees.ext 49 true true (mkCall 1 lright_i lright_o lright_r lright)
theorem E_lright_ok : EnvOK Tryz.prog E_lright := Env.ext_ok E_ltrees_ok lright_spec (fun _ => mkCall_local rfl rfl) (fun _ => mkCall_in rfl rfl)
-- archipelago/level.Edges
abbrev ledges_h : Hints := { loop := fun n => match n with | 0 => loopBy 0 26 ledges_i0 ledges_o0 ledges_s0 | _ => fun _ _ _ => none }
theorem ledges_s0_ok : ∀ v, ledges_s0 v = roundOf Tryz.prog E_lright ledges_h 1 0 26 (loopOf Tryz.f52 0) ledges_i0 ledges_o0 v := by
 rintro ⟨a0, a1, a2, a3, ⟨⟩⟩
 kernel_rfl
theorem ledges_q0 : loopList (loopOf Tryz.f52 0) 1 = [] := by kernel_rfl
theorem ledges_l0 : CodeOK Tryz.prog 0 (.loop (loopOf Tryz.f52 0)) (ledges_h.loop 0) := loop_ok E_lright_ok (ledges_s0_ok) (LoopsOK_of ledges_q0 trivial)
theorem ledges_okd : ∀ v, ledges_d v = pevCall Tryz.prog E_lright ledges_h Tryz.f52 ledges_i ledges_o ledges_r v := by
 rintro ⟨a0, ⟨⟩⟩
 kernel_rfl
theorem ledges_q : loopList (bodyOf Tryz.f52) 0 = [(0, loopOf Tryz.f52 0)] := by kernel_rfl
theorem ledges_spec : SpecOK Tryz.prog 52 (mkCall 1 ledges_i ledges_o ledges_r ledges) := call_spec E_lright_ok Tryz.func52 (by kernel_rfl) (by kernel_rfl) rfl (fun v => (ledges_eq v).trans (ledges_okd v)) (LoopsOK_of ledges_q ⟨ledges_l0, trivial⟩)
def E_ledges : Env := E_lright.ext 52 true true (mkCall 1 ledges_i ledges_o ledges_r ledges)
theorem E_ledges_ok : EnvOK Tryz.prog E_ledges := Env.ext_ok E_lright_ok ledges_spec (fun _ => mkCall_local rfl rfl) (fun _ => mkCall_in rfl rfl)
-- archipelago/span.asked
abbrev sasked_h : Hints := { loop := fun n => match n with | 0 => loopBy 0 35 sasked_i0 sasked_o0 sasked_s0 | _ => fun _ _ _ => none }
theorem sasked_s0_ok : ∀ v, sasked_s0 v = roundOf Tryz.prog E_ledges sasked_h 1 0 35 (loopOf Tryz.f119 0) sasked_i0 sasked_o0 v := by
 rintro ⟨a0, a1, a2, a3, ⟨⟩⟩
 kernel_rfl
theorem sasked_q0 : loopList (loopOf Tryz.f119 0) 1 = [] := by kernel_rfl
theorem sasked_l0 : CodeOK Tryz.prog 0 (.loop (loopOf Tryz.f119 0)) (sasked_h.loop 0) := loop_ok E_ledges_ok (sasked_s0_ok) (LoopsOK_of sasked_q0 trivial)
theorem sasked_okd : ∀ v, sasked_d v = pevCall Tryz.prog E_ledges sasked_h Tryz.f119 sasked_i sasked_o sasked_r v := by
 rintro ⟨a0, a1, ⟨⟩⟩
 kernel_rfl
theorem sasked_q : loopList (bodyOf Tryz.f119) 0 = [(0, loopOf Tryz.f119 0)] := by kernel_rfl
theorem sasked_spec : SpecOK Tryz.prog 119 (mkCall 2 sasked_i sasked_o sasked_r sasked) := call_spec E_ledges_ok Tryz.func119 (by kernel_rfl) (by kernel_rfl) rfl (fun v => (sasked_eq v).trans (sasked_okd v)) (LoopsOK_of sasked_q ⟨sasked_l0, trivial⟩)
def E_sasked : Env := E_ledges.ext 119 true true (mkCall 2 sasked_i sasked_o sasked_r sasked)
theorem E_sasked_ok : EnvOK Tryz.prog E_sasked := Env.ext_ok E_ledges_ok sasked_spec (fun _ => mkCall_local rfl rfl) (fun _ => mkCall_in rfl rfl)
-- archipelago/span.alone
abbrev salone_h : Hints := { loop := fun n => match n with | 0 => loopBy 0 18 salone_i0 salone_o0 salone_s0 | _ => fun _ _ _ => none }
theorem salone_s0_ok : ∀ v, salone_s0 v = roundOf Tryz.prog E_sasked salone_h 1 0 18 (loopOf Tryz.f120 0) salone_i0 salone_o0 v := by
 rintro ⟨a0, a1, a2, ⟨⟩⟩
 kernel_rfl
theorem salone_q0 : loopList (loopOf Tryz.f120 0) 1 = [] := by kernel_rfl
theorem salone_l0 : CodeOK Tryz.prog 0 (.loop (loopOf Tryz.f120 0)) (salone_h.loop 0) := loop_ok E_sasked_ok (salone_s0_ok) (LoopsOK_of salone_q0 trivial)
theorem salone_okd : ∀ v, salone_d v = pevCall Tryz.prog E_sasked salone_h Tryz.f120 salone_i salone_o salone_r v := by
 rintro ⟨a0, ⟨⟩⟩
 kernel_rfl
theorem salone_q : loopList (bodyOf Tryz.f120) 0 = [(0, loopOf Tryz.f120 0)] := by kernel_rfl
theorem salone_spec : SpecOK Tryz.prog 120 (mkCall 1 salone_i salone_o salone_r salone) := call_spec E_sasked_ok Tryz.func120 (by kernel_rfl) (by kernel_rfl) rfl (fun v => (salone_eq v).trans (salone_okd v)) (LoopsOK_of salone_q ⟨salone_l0, trivial⟩)
def E_salone : Env := E_sasked.ext 120 true true (mkCall 1 salone_i salone_o salone_r salone)
theorem E_salone_ok : EnvOK Tryz.prog E_salone := Env.ext_ok E_sasked_ok salone_spec (fun _ => mkCall_local rfl rfl) (fun _ => mkCall_in rfl rfl)
-- (archipelago/span.sets).least
abbrev sleast_h : Hints := { loop := fun n => match n with | 0 => loopBy 1 26 sleast_i0 sleast_o0 sleast_s0 | _ => fun _ _ _ => none }
theorem sleast_s0_ok : ∀ v, sleast_s0 v = roundOf Tryz.prog E_salone sleast_h 1 1 26 (loopOf Tryz.f152 0) sleast_i0 sleast_o0 v := by
 rintro ⟨a0, a1, ⟨⟩⟩
 kernel_rfl
theorem sleast_q0 : loopList (loopOf Tryz.f152 0) 1 = [] := by kernel_rfl
theorem sleast_l0 : CodeOK Tryz.prog 1 (.loop (loopOf Tryz.f152 0)) (sleast_h.loop 0) := loop_ok E_salone_ok (sleast_s0_ok) (LoopsOK_of sleast_q0 trivial)
theorem sleast_okd : ∀ v, sleast_d v = pevCall Tryz.prog E_salone sleast_h Tryz.f152 sleast_i sleast_o sleast_r v := by
 rintro ⟨a0, a1, ⟨⟩⟩
 kernel_rfl
theorem sleast_q : loopList (bodyOf Tryz.f152) 0 = [(0, loopOf Tryz.f152 0)] := by kernel_rfl
theorem sleast_spec : SpecOK Tryz.prog 152 (mkCall 2 sleast_i sleast_o sleast_r sleast) := call_spec E_salone_ok Tryz.func152 (by kernel_rfl) (by kernel_rfl) rfl (fun v => (sleast_eq v).trans (sleast_okd v)) (LoopsOK_of sleast_q ⟨sleast_l0, trivial⟩)
def E_sleast : Env := E_salone.ext 152 false true (mkCall 2 sleast_i sleast_o sleast_r sleast)
theorem E_sleast_ok : EnvOK Tryz.prog E_sleast := Env.ext_ok E_salone_ok sleast_spec ((by simp)) (fun _ => mkCall_in rfl rfl)
-- (archipelago/span.sets).join
abbrev sjoin_h : Hints := {  }
theorem sjoin_okd : ∀ v, sjoin_d v = pevCall Tryz.prog E_sleast sjoin_h Tryz.f151 sjoin_i sjoin_o sjoin_r v := by
 rintro ⟨a0, a1, a2, ⟨⟩⟩
 kernel_rfl
theorem sjoin_q : loopList (bodyOf Tryz.f151) 0 = [] := by kernel_rfl
theorem sjoin_spec : SpecOK Tryz.prog 151 (mkCall 3 sjoin_i sjoin_o sjoin_r sjoin) := call_spec E_sleast_ok Tryz.func151 (by kernel_rfl) (by kernel_rfl) rfl (fun v => (sjoin_eq v).trans (sjoin_okd v)) (LoopsOK_of sjoin_q trivial)
def E_sjoin : Env := E_sleast.ext 151 false true (mkCall 3 sjoin_i sjoin_o sjoin_r sjoin)
theorem E_sjoin_ok : EnvOK Tryz.prog E_sjoin := Env.ext_ok E_sleast_ok sjoin_spec ((by simp)) (fun _ => mkCall_in rfl rfl)
-- archipelago/span.each
abbrev eachJoin_h : Hints := { loop := fun n => match n with | 0 => loopBy 1 25 eachJoin_i0 eachJoin_o0 eachJoin_s0 | _ => fun _ _ _ => none }
theorem eachJoin_s0_ok : ∀ v, eachJoin_s0 v = roundOf Tryz.prog E_sjoin eachJoin_h 1 1 25 (loopOf Tryz.f150 0) eachJoin_i0 eachJoin_o0 v := by
 rintro ⟨a0, a1, a2, a3, a4, ⟨⟩⟩
 kernel_rfl
theorem eachJoin_q0 : loopList (loopOf Tryz.f150 0) 1 = [] := by kernel_rfl
theorem eachJoin_l0 : CodeOK Tryz.prog 1 (.loop (loopOf Tryz.f150 0)) (eachJoin_h.loop 0) := loop_ok E_sjoin_ok (eachJoin_s0_ok) (LoopsOK_of eachJoin_q0 trivial)
theorem eachJoin_okd : ∀ v, eachJoin_d v = pevCall Tryz.prog E_sjoin eachJoin_h Tryz.f150 eachJoin_i eachJoin_o eachJoin_r v := by
 rintro ⟨a0, a1, ⟨⟩⟩
 kernel_rfl
theorem eachJoin_q : loopList (bodyOf Tryz.f150) 0 = [(0, loopOf Tryz.f150 0)] := by kernel_rfl
theorem eachJoin_spec : SpecOK Tryz.prog 150 (mkCall 2 eachJoin_i eachJoin_o eachJoin_r eachJoin) := call_spec E_sjoin_ok Tryz.func150 (by kernel_rfl) (by kernel_rfl) rfl (fun v => (eachJoin_eq v).trans (eachJoin_okd v)) (LoopsOK_of eachJoin_q ⟨eachJoin_l0, trivial⟩)
def E_eachJoin : Env := E_sjoin.extC 150 1 151 (mkCall 2 eachJoin_i eachJoin_o eachJoin_r eachJoin)
theorem E_eachJoin_ok : EnvOK Tryz.prog E_eachJoin := Env.extC_ok E_sjoin_ok eachJoin_spec (mkCall_in rfl rfl)
-- (archipelago/span.sets).joins
abbrev sjoins_h : Hints := {  }
theorem sjoins_okd : ∀ v, sjoins_d v = pevCall Tryz.prog E_eachJoin sjoins_h Tryz.f121 sjoins_i sjoins_o sjoins_r v := by
 rintro ⟨a0, a1, ⟨⟩⟩
 kernel_rfl
theorem sjoins_q : loopList (bodyOf Tryz.f121) 0 = [] := by kernel_rfl
theorem sjoins_spec : SpecOK Tryz.prog 121 (mkCall 2 sjoins_i sjoins_o sjoins_r sjoins) := call_spec E_eachJoin_ok Tryz.func121 (by kernel_rfl) (by kernel_rfl) rfl (fun v => (sjoins_eq v).trans (sjoins_okd v)) (LoopsOK_of sjoins_q trivial)
def E_sjoins : Env := E_eachJoin.ext 121 false true (mkCall 2 sjoins_i sjoins_o sjoins_r sjoins)
theorem E_sjoins_ok : EnvOK Tryz.prog E_sjoins := Env.ext_ok E_eachJoin_ok sjoins_spec ((by simp)) (fun _ => mkCall_in rfl rfl)
-- archipelago/span.Classes
abbrev sclasses_h : Hints := { loop := fun n => match n with | 0 => loopBy 0 33 sclasses_i0 sclasses_o0 sclasses_s0 | _ => fun _ _ _ => none }
theorem sclasses_s0_ok : ∀ v, sclasses_s0 v = roundOf Tryz.prog E_sjoins sclasses_h 1 0 33 (loopOf Tryz.f123 0) sclasses_i0 sclasses_o0 v := by
 rintro ⟨a0, a1, a2, ⟨⟩⟩
 kernel_rfl
theorem sclasses_q0 : loopList (loopOf Tryz.f123 0) 1 = [] := by kernel_rfl
theorem sclasses_l0 : CodeOK Tryz.prog 0 (.loop (loopOf Tryz.f123 0)) (sclasses_h.loop 0) := loop_ok E_sjoins_ok (sclasses_s0_ok) (LoopsOK_of sclasses_q0 trivial)
theorem sclasses_okd : ∀ v, sclasses_d v = pevCall Tryz.prog E_sjoins sclasses_h Tryz.f123 sclasses_i sclasses_o sclasses_r v := by
 rintro ⟨a0, a1, ⟨⟩⟩
 kernel_rfl
theorem sclasses_q : loopList (bodyOf Tryz.f123) 0 = [(0, loopOf Tryz.f123 0)] := by kernel_rfl
theorem sclasses_spec : SpecOK Tryz.prog 123 (mkCall 2 sclasses_i sclasses_o sclasses_r sclasses) := call_spec E_sjoins_ok Tryz.func123 (by kernel_rfl) (by kernel_rfl) rfl (fun v => (sclasses_eq v).trans (sclasses_okd v)) (LoopsOK_of sclasses_q ⟨sclasses_l0, trivial⟩)
def E_sclasses : Env := E_sjoins.ext 123 true true (mkCall 2 sclasses_i sclasses_o sclasses_r sclasses)
theorem E_sclasses_ok : EnvOK Tryz.prog E_sclasses := Env.ext_ok E_sjoins_ok sclasses_spec (fun _ => mkCall_local rfl rfl) (fun _ => mkCall_in rfl rfl)
-- archipelago/archipelagoref21.Top
abbrev top21_h : Hints := { loop := fun n => match n with | 0 => loopBy 0 20 top21_i0 top21_o0 top21_s0 | _ => fun _ _ _ => none }
theorem top21_s0_ok : ∀ v, top21_s0 v = roundOf Tryz.prog E_sclasses top21_h 1 0 20 (loopOf Tryz.f38 0) top21_i0 top21_o0 v := by
 rintro ⟨a0, a1, ⟨⟩⟩
 kernel_rfl
theorem top21_q0 : loopList (loopOf Tryz.f38 0) 1 = [] := by kernel_rfl
theorem top21_l0 : CodeOK Tryz.prog 0 (.loop (loopOf Tryz.f38 0)) (top21_h.loop 0) := loop_ok E_sclasses_ok (top21_s0_ok) (LoopsOK_of top21_q0 trivial)
theorem top21_okd : ∀ v, top21_d v = pevCall Tryz.prog E_sclasses top21_h Tryz.f38 top21_i top21_o top21_r v := by
 rintro ⟨a0, ⟨⟩⟩
 kernel_rfl
theorem top21_q : loopList (bodyOf Tryz.f38) 0 = [(0, loopOf Tryz.f38 0)] := by kernel_rfl
theorem top21_spec : SpecOK Tryz.prog 38 (mkCall 1 top21_i top21_o top21_r top21) := call_spec E_sclasses_ok Tryz.func38 (by kernel_rfl) (by kernel_rfl) rfl (fun v => (top21_eq v).trans (top21_okd v)) (LoopsOK_of top21_q ⟨top21_l0, trivial⟩)
def E_top21 : Env := E_sclasses.ext 38 true true (mkCall 1 top21_i top21_o top21_r top21)
theorem E_top21_ok : EnvOK Tryz.prog E_top21 := Env.ext_ok E_sclasses_ok top21_spec (fun _ => mkCall_local rfl rfl) (fun _ => mkCall_in rfl rfl)
end
end Go.Pev
end
section
namespace Go.Pev
open Go.Proofs
set_option maxRecDepth 100000
noncomputable section
-- archipelago/archipelagoref11.Same
abbrev same11_h : Hints := { loop := fun n => match n with | 0 => loopBy 0 26 same11_i0 same11_o0 same11_s0 | _ => fun _ _ _ => none, fp := fun n => match n with | 6 => [[], [], [], [], [], [], [], [], []] | _ => [] }
theorem same11_s0_ok : ∀ v, same11_s0 v = roundOf Tryz.prog E_top21 same11_h 1 0 26 (loopOf Tryz.f19 0) same11_i0 same11_o0 v := by
 rintro ⟨a0, a1, a2, ⟨⟩⟩
 kernel_rfl
theorem same11_q0 : loopList (loopOf Tryz.f19 0) 1 = [] := by kernel_rfl
theorem same11_l0 : CodeOK Tryz.prog 0 (.loop (loopOf Tryz.f19 0)) (same11_h.loop 0) := loop_ok E_top21_ok (same11_s0_ok) (LoopsOK_of same11_q0 trivial)
theorem same11_okd : ∀ v, same11_d v = pevCall Tryz.prog E_top21 same11_h Tryz.f19 same11_i same11_o same11_r v := by
 rintro ⟨a0, a1, ⟨⟩⟩
 kernel_rfl
theorem same11_q : loopList (bodyOf Tryz.f19) 0 = [(0, loopOf Tryz.f19 0)] := by kernel_rfl
theorem same11_spec : SpecOK Tryz.prog 19 (mkCall 2 same11_i same11_o same11_r same11) := call_spec E_top21_ok Tryz.func19 (by kernel_rfl) (by kernel_rfl) rfl (fun v => (same11_eq v).trans (same11_okd v)) (LoopsOK_of same11_q ⟨same11_l0, trivial⟩)
def E_same11 : Env := E_top21.ext 19 true true (mkCall 2 same11_i same11_o same11_r same11)
theorem E_same11_ok : EnvOK Tryz.prog E_same11 := Env.ext_ok E_top21_ok same11_spec (fun _ => mkCall_local rfl rfl) (fun _ => mkCall_in rfl rfl)
-- archipelago/tour.Of
abbrev tof_h : Hints := {  }
theorem tof_okd : ∀ v, tof_d v = pevCall Tryz.prog E_same11 tof_h Tryz.f126 tof_i tof_o tof_r v := by
 rintro ⟨a0, a1, ⟨⟩⟩
 kernel_rfl
theorem tof_q : loopList (bodyOf Tryz.f126) 0 = [] := by kernel_rfl
theorem tof_spec : SpecOK Tryz.prog 126 (mkCall 2 tof_i tof_o tof_r tof) := call_spec E_same11_ok Tryz.func126 (by kernel_rfl) (by kernel_rfl) rfl (fun v => (tof_eq v).trans (tof_okd v)) (LoopsOK_of tof_q trivial)
def E_tof : Env := E_same11.ext 126 true true (mkCall 2 tof_i tof_o tof_r tof)
theorem E_tof_ok : EnvOK Tryz.prog E_tof := Env.ext_ok E_same11_ok tof_spec (fun _ => mkCall_local rfl rfl) (fun _ => mkCall_in rfl rfl)
-- 71 cloneT: slices.Clone
theorem cloneT_n : (Tryz.f71.name == "runtime.NumGoroutine") = false := by kernel_rfl
theorem cloneT_shape : CloneShape Tryz.prog Tryz.f71 22 44 (.prod (.int .i64) (.prod (.int .i64) (.prod (.int .i64) (.prod .bool .unit)))) where
 body := by kernel_rfl
 nt := by kernel_rfl
 res := by kernel_rfl
 d := ⟨by kernel_rfl, by kernel_rfl, by kernel_rfl, by kernel_rfl, by kernel_rfl, by kernel_rfl, by kernel_rfl, by kernel_rfl⟩
 g := ⟨by kernel_rfl, by kernel_rfl, by kernel_rfl, by kernel_rfl, by kernel_rfl, by kernel_rfl, by kernel_rfl, by kernel_rfl⟩
 o00 := by kernel_rfl
 o10 := by kernel_rfl
 o11 := by kernel_rfl
 o20 := by kernel_rfl
 o30 := by kernel_rfl
 o31 := by kernel_rfl
 o32 := by kernel_rfl
 o33 := by kernel_rfl
 sl := by kernel_rfl
 z := by kernel_rfl
 by1 := by kernel_rfl
def E_cloneT : Env := E_tof.ext 71 true true (cloneSpec 44 (.prod (.int .i64) (.prod (.int .i64) (.prod (.int .i64) (.prod .bool .unit)))))
theorem E_cloneT_ok : EnvOK Tryz.prog E_cloneT := Env.ext_ok E_tof_ok (clone_ok cloneT_shape Tryz.func71 cloneT_n) (fun _ => cloneSpec_local _ _) (fun _ => (cloneSpec_local _ _).toIn)
-- archipelago/level.Forest
abbrev lforest_h : Hints := { fp := fun n => match n with | 3 => [[0], [0], [0], [], [], [12], [], [], [3], []] | _ => [] }
theorem lforest_okd : ∀ v, lforest_d v = pevCall Tryz.prog E_cloneT lforest_h Tryz.f41 lforest_i lforest_o lforest_r v := by
 rintro ⟨a0, a1, ⟨⟩⟩
 kernel_rfl
theorem lforest_q : loopList (bodyOf Tryz.f41) 0 = [] := by kernel_rfl
theorem lforest_spec : SpecOK Tryz.prog 41 (mkCall 2 lforest_i lforest_o lforest_r lforest) := call_spec E_cloneT_ok Tryz.func41 (by kernel_rfl) (by kernel_rfl) rfl (fun v => (lforest_eq v).trans (lforest_okd v)) (LoopsOK_of lforest_q trivial)
def E_lforest : Env := E_cloneT.ext 41 true true (mkCall 2 lforest_i lforest_o lforest_r lforest)
theorem E_lforest_ok : EnvOK Tryz.prog E_lforest := Env.ext_ok E_cloneT_ok lforest_spec (fun _ => mkCall_local rfl rfl) (fun _ => mkCall_in rfl rfl)
-- archipelago/span.Count
abbrev scount_h : Hints := { loop := fun n => match n with | 0 => loopBy 0 32 scount_i0 scount_o0 scount_s0 | _ => fun _ _ _ => none }
theorem scount_s0_ok : ∀ v, scount_s0 v = roundOf Tryz.prog E_lforest scount_h 1 0 32 (loopOf Tryz.f77 0) scount_i0 scount_o0 v := by
 rintro ⟨a0, a1, a2, a3, a4, ⟨⟩⟩
 kernel_rfl
theorem scount_q0 : loopList (loopOf Tryz.f77 0) 1 = [] := by kernel_rfl
theorem scount_l0 : CodeOK Tryz.prog 0 (.loop (loopOf Tryz.f77 0)) (scount_h.loop 0) := loop_ok E_lforest_ok (scount_s0_ok) (LoopsOK_of scount_q0 trivial)
theorem scount_okd : ∀ v, scount_d v = pevCall Tryz.prog E_lforest scount_h Tryz.f77 scount_i scount_o scount_r v := by
 rintro ⟨a0, a1, ⟨⟩⟩
 kernel_rfl
theorem scount_q : loopList (bodyOf Tryz.f77) 0 = [(0, loopOf Tryz.f77 0)] := by kernel_rfl
theorem scount_spec : SpecOK Tryz.prog 77 (mkCall 2 scount_i scount_o scount_r scount) := call_spec E_lforest_ok Tryz.func77 (by kernel_rfl) (by kernel_rfl) rfl (fun v => (scount_eq v).trans (scount_okd v)) (LoopsOK_of scount_q ⟨scount_l0, trivial⟩)
def E_scount : Env := E_lforest.ext 77 true true (mkCall 2 scount_i scount_o scount_r scount)
theorem E_scount_ok : EnvOK Tryz.prog E_scount := Env.ext_ok E_lforest_ok scount_spec (fun _ => mkCall_local rfl rfl) (fun _ => mkCall_in rfl rfl)
-- archipelago/forest.Connected
abbrev fconn_h : Hints := { fp := fun n => match n with | 4 => [[0], [], [], [0], [], [], [], [], []] | _ => [] }
theorem fconn_okd : ∀ v, fconn_d v = pevCall Tryz.prog E_scount fconn_h Tryz.f82 fconn_i fconn_o fconn_r v := by
 rintro ⟨a0, a1, a2, ⟨⟩⟩
 kernel_rfl
theorem fconn_q : loopList (bodyOf Tryz.f82) 0 = [] := by kernel_rfl
theorem fconn_spec : SpecOK Tryz.prog 82 (mkCall 3 fconn_i fconn_o fconn_r fconn) := call_spec E_scount_ok Tryz.func82 (by kernel_rfl) (by kernel_rfl) rfl (fun v => (fconn_eq v).trans (fconn_okd v)) (LoopsOK_of fconn_q trivial)
def E_fconn : Env := E_scount.ext 82 true true (mkCall 3 fconn_i fconn_o fconn_r fconn)
theorem E_fconn_ok : EnvOK Tryz.prog E_fconn := Env.ext_ok E_scount_ok fconn_spec (fun _ => mkCall_local rfl rfl) (fun _ => mkCall_in rfl rfl)
-- archipelago/forest.Size
abbrev fsize_h : Hints := { fp := fun n => match n with | 4 => [[0], [0], [0], [], [], [], [], [], [], [], [], []] | _ => [] }
theorem fsize_okd : ∀ v, fsize_d v = pevCall Tryz.prog E_fconn fsize_h Tryz.f83 fsize_i fsize_o fsize_r v := by
 rintro ⟨a0, a1, ⟨⟩⟩
 kernel_rfl
theorem fsize_q : loopList (bodyOf Tryz.f83) 0 = [] := by kernel_rfl
theorem fsize_spec : SpecOK Tryz.prog 83 (mkCall 2 fsize_i fsize_o fsize_r fsize) := call_spec E_fconn_ok Tryz.func83 (by kernel_rfl) (by kernel_rfl) rfl (fun v => (fsize_eq v).trans (fsize_okd v)) (LoopsOK_of fsize_q trivial)
def E_fsize : Env := E_fconn.ext 83 true true (mkCall 2 fsize_i fsize_o fsize_r fsize)
theorem E_fsize_ok : EnvOK Tryz.prog E_fsize := Env.ext_ok E_fconn_ok fsize_spec (fun _ => mkCall_local rfl rfl) (fun _ => mkCall_in rfl rfl)
-- archipelago/sound.Best$1
abbrev snBest1_h : Hints := {  }
theorem snBest1_okd : ∀ v, snBest1_d v = pevCall Tryz.prog E_fsize snBest1_h Tryz.f73 snBest1_i snBest1_o snBest1_r v := by
 rintro ⟨a0, a1, ⟨⟩⟩
 kernel_rfl
theorem snBest1_q : loopList (bodyOf Tryz.f73) 0 = [] := by kernel_rfl
theorem snBest1_spec : SpecOK Tryz.prog 73 (mkCall 2 snBest1_i snBest1_o snBest1_r snBest1) := call_spec E_fsize_ok Tryz.func73 (by kernel_rfl) (by kernel_rfl) rfl (fun v => (snBest1_eq v).trans (snBest1_okd v)) (LoopsOK_of snBest1_q trivial)
def E_snBest1 : Env := E_fsize.ext 73 true true (mkCall 2 snBest1_i snBest1_o snBest1_r snBest1)
theorem E_snBest1_ok : EnvOK Tryz.prog E_snBest1 := Env.ext_ok E_fsize_ok snBest1_spec (fun _ => mkCall_local rfl rfl) (fun _ => mkCall_in rfl rfl)
-- slices.insertionSortCmpFunc[archipelago/api.Tie]
abbrev insS_h : Hints := { loop := fun n => match n with | 0 => loopBy 1 53 insS_i0 insS_o0 insS_s0 | 1 => loopBy 1 53 insS_i1 insS_o1 insS_s1 | _ => fun _ _ _ => none, fp := fun n => match n with | 4 => [[], [], [], [], [], [], [], [0], [0], [], [], [], [0], [0], [], [], []] | 6 => [[], [], [], [], [], [], [], [], [0], [0], [], [], [0], [0], [0], [1], [0], [1]] | _ => [] }
theorem insS_s1_ok : ∀ v, insS_s1 v = roundOf Tryz.prog E_snBest1 insS_h 2 1 53 (loopOf Tryz.f148 1) insS_i1 insS_o1 v := by
 rintro ⟨a0, a1, a2, a3, a4, ⟨⟩⟩
 kernel_rfl
theorem insS_q1 : loopList (loopOf Tryz.f148 1) 2 = [] := by kernel_rfl
theorem insS_l1 : CodeOK Tryz.prog 1 (.loop (loopOf Tryz.f148 1)) (insS_h.loop 1) := loop_ok E_snBest1_ok (insS_s1_ok) (LoopsOK_of insS_q1 trivial)
theorem insS_s0_ok : ∀ v, insS_s0 v = roundOf Tryz.prog E_snBest1 insS_h 1 1 53 (loopOf Tryz.f148 0) insS_i0 insS_o0 v := by
 rintro ⟨a0, a1, a2, a3, ⟨⟩⟩
 kernel_rfl
theorem insS_q0 : loopList (loopOf Tryz.f148 0) 1 = [(1, loopOf Tryz.f148 1)] := by kernel_rfl
theorem insS_l0 : CodeOK Tryz.prog 1 (.loop (loopOf Tryz.f148 0)) (insS_h.loop 0) := loop_ok E_snBest1_ok (insS_s0_ok) (LoopsOK_of insS_q0 ⟨insS_l1, trivial⟩)
theorem insS_okd : ∀ v, insS_d v = pevCall Tryz.prog E_snBest1 insS_h Tryz.f148 insS_i insS_o insS_r v := by
 rintro ⟨a0, a1, a2, ⟨⟩⟩
 kernel_rfl
theorem insS_q : loopList (bodyOf Tryz.f148) 0 = [(0, loopOf Tryz.f148 0)] := by kernel_rfl
theorem insS_spec : SpecOK Tryz.prog 148 (mkCall 4 insS_i insS_o insS_r insS) := call_spec E_snBest1_ok Tryz.func148 (by kernel_rfl) (by kernel_rfl) rfl (fun v => (insS_eq v).trans (insS_okd v)) (LoopsOK_of insS_q ⟨insS_l0, trivial⟩)
def E_insS : Env := E_snBest1.extC 148 3 73 (mkCall 4 insS_i insS_o insS_r insS)
theorem E_insS_ok : EnvOK Tryz.prog E_insS := Env.extC_ok E_snBest1_ok insS_spec (mkCall_in rfl rfl)
-- slices.swapRangeCmpFunc[archipelago/api.Tie]
abbrev swapS_h : Hints := { loop := fun n => match n with | 0 => loopBy 1 38 swapS_i0 swapS_o0 swapS_s0 | _ => fun _ _ _ => none, fp := fun n => match n with | 3 => [[], [], [], [], [], [], [], [], [], [], [], [], [0], [0], [], [], [], [], [0], [0], [0], [1], [0], [1]] | _ => [] }
theorem swapS_s0_ok : ∀ v, swapS_s0 v = roundOf Tryz.prog E_insS swapS_h 1 1 38 (loopOf Tryz.f194 0) swapS_i0 swapS_o0 v := by
 rintro ⟨a0, a1, a2, a3, a4, ⟨⟩⟩
 kernel_rfl
theorem swapS_q0 : loopList (loopOf Tryz.f194 0) 1 = [] := by kernel_rfl
theorem swapS_l0 : CodeOK Tryz.prog 1 (.loop (loopOf Tryz.f194 0)) (swapS_h.loop 0) := loop_ok E_insS_ok (swapS_s0_ok) (LoopsOK_of swapS_q0 trivial)
theorem swapS_okd : ∀ v, swapS_d v = pevCall Tryz.prog E_insS swapS_h Tryz.f194 swapS_i swapS_o swapS_r v := by
 rintro ⟨a0, a1, a2, a3, ⟨⟩⟩
 kernel_rfl
theorem swapS_q : loopList (bodyOf Tryz.f194) 0 = [(0, loopOf Tryz.f194 0)] := by kernel_rfl
theorem swapS_spec : SpecOK Tryz.prog 194 (mkCall 5 swapS_i swapS_o swapS_r swapS) := call_spec E_insS_ok Tryz.func194 (by kernel_rfl) (by kernel_rfl) rfl (fun v => (swapS_eq v).trans (swapS_okd v)) (LoopsOK_of swapS_q ⟨swapS_l0, trivial⟩)
def E_swapS : Env := E_insS.extC 194 4 73 (mkCall 5 swapS_i swapS_o swapS_r swapS)
theorem E_swapS_ok : EnvOK Tryz.prog E_swapS := Env.extC_ok E_insS_ok swapS_spec (mkCall_in rfl rfl)
-- slices.rotateCmpFunc[archipelago/api.Tie]
abbrev rotS_h : Hints := { loop := fun n => match n with | 0 => loopBy 1 58 rotS_i0 rotS_o0 rotS_s0 | _ => fun _ _ _ => none }
theorem rotS_s0_ok : ∀ v, rotS_s0 v = roundOf Tryz.prog E_swapS rotS_h 1 1 58 (loopOf Tryz.f175 0) rotS_i0 rotS_o0 v := by
 rintro ⟨a0, a1, a2, a3, ⟨⟩⟩
 kernel_rfl
theorem rotS_q0 : loopList (loopOf Tryz.f175 0) 1 = [] := by kernel_rfl
theorem rotS_l0 : CodeOK Tryz.prog 1 (.loop (loopOf Tryz.f175 0)) (rotS_h.loop 0) := loop_ok E_swapS_ok (rotS_s0_ok) (LoopsOK_of rotS_q0 trivial)
theorem rotS_okd : ∀ v, rotS_d v = pevCall Tryz.prog E_swapS rotS_h Tryz.f175 rotS_i rotS_o rotS_r v := by
 rintro ⟨a0, a1, a2, a3, ⟨⟩⟩
 kernel_rfl
theorem rotS_q : loopList (bodyOf Tryz.f175) 0 = [(0, loopOf Tryz.f175 0)] := by kernel_rfl
theorem rotS_spec : SpecOK Tryz.prog 175 (mkCall 5 rotS_i rotS_o rotS_r rotS) := call_spec E_swapS_ok Tryz.func175 (by kernel_rfl) (by kernel_rfl) rfl (fun v => (rotS_eq v).trans (rotS_okd v)) (LoopsOK_of rotS_q ⟨rotS_l0, trivial⟩)
def E_rotS : Env := E_swapS.extC 175 4 73 (mkCall 5 rotS_i rotS_o rotS_r rotS)
theorem E_rotS_ok : EnvOK Tryz.prog E_rotS := Env.extC_ok E_swapS_ok rotS_spec (mkCall_in rfl rfl)
-- slices.symMergeCmpFunc[archipelago/api.Tie]
abbrev symS_h (self : (List (Int × Int × Int × Bool × Unit) × Int × Int × Int × Unit) → Option ((List (Int × Int × Int × Bool × Unit) × Unit))) : Hints := { loop := fun n => match n with | 0 => loopBy 1 220 symS_i0 symS_o0 (symS_s0 self) | 1 => loopBy 1 220 symS_i1 symS_o1 (symS_s1 self) | 2 => loopBy 1 220 symS_i2 symS_o2 (symS_s2 self) | 3 => loopBy 1 220 symS_i3 symS_o3 (symS_s3 self) | 4 => loopBy 1 220 symS_i4 symS_o4 (symS_s4 self) | _ => fun _ _ _ => none, fp := fun n => match n with | 5 => [[], [], [], [0], [0], [], [], [0], [0], [], []] | 11 => [[], [], [], [], [], [], [], [], [0], [0], [], [], [0], [0], [0], [1], [0], [1]] | 17 => [[], [], [], [0], [0], [], [], [0], [0], [], [], []] | 23 => [[], [], [], [], [], [], [], [], [0], [0], [], [], [0], [0], [0], [1], [0], [1]] | 35 => [[], [], [], [], [], [0], [0], [], [], [0], [0], [], [], []] | _ => [] }
abbrev symS_E (self : (List (Int × Int × Int × Bool × Unit) × Int × Int × Int × Unit) → Option ((List (Int × Int × Int × Bool × Unit) × Unit))) : Env := E_rotS.ext 149 false true (mkCall 5 symS_i symS_o symS_r self)
theorem symS_s4_ok (self : (List (Int × Int × Int × Bool × Unit) × Int × Int × Int × Unit) → Option ((List (Int × Int × Int × Bool × Unit) × Unit))) : ∀ v, symS_s4 self v = roundOf Tryz.prog (symS_E self) (symS_h self) 5 1 220 (loopOf Tryz.f149 4) symS_i4 symS_o4 v := by
 rintro ⟨a0, a1, a2, a3, a4, a5, a6, a7, a8, ⟨⟩⟩
 kernel_rfl
theorem symS_q4 : loopList (loopOf Tryz.f149 4) 5 = [] := by kernel_rfl
theorem symS_l4 (self : (List (Int × Int × Int × Bool × Unit) × Int × Int × Int × Unit) → Option ((List (Int × Int × Int × Bool × Unit) × Unit))) (hE : EnvOK Tryz.prog (symS_E self)) : CodeOK Tryz.prog 1 (.loop (loopOf Tryz.f149 4)) ((symS_h self).loop 4) := loop_ok hE (symS_s4_ok self) (LoopsOK_of symS_q4 trivial)
theorem symS_s3_ok (self : (List (Int × Int × Int × Bool × Unit) × Int × Int × Int × Unit) → Option ((List (Int × Int × Int × Bool × Unit) × Unit))) : ∀ v, symS_s3 self v = roundOf Tryz.prog (symS_E self) (symS_h self) 4 1 220 (loopOf Tryz.f149 3) symS_i3 symS_o3 v := by
 rintro ⟨a0, a1, a2, ⟨⟩⟩
 kernel_rfl
theorem symS_q3 : loopList (loopOf Tryz.f149 3) 4 = [] := by kernel_rfl
theorem symS_l3 (self : (List (Int × Int × Int × Bool × Unit) × Int × Int × Int × Unit) → Option ((List (Int × Int × Int × Bool × Unit) × Unit))) (hE : EnvOK Tryz.prog (symS_E self)) : CodeOK Tryz.prog 1 (.loop (loopOf Tryz.f149 3)) ((symS_h self).loop 3) := loop_ok hE (symS_s3_ok self) (LoopsOK_of symS_q3 trivial)
theorem symS_s2_ok (self : (List (Int × Int × Int × Bool × Unit) × Int × Int × Int × Unit) → Option ((List (Int × Int × Int × Bool × Unit) × Unit))) : ∀ v, symS_s2 self v = roundOf Tryz.prog (symS_E self) (symS_h self) 3 1 220 (loopOf Tryz.f149 2) symS_i2 symS_o2 v := by
 rintro ⟨a0, a1, a2, a3, ⟨⟩⟩
 kernel_rfl
theorem symS_q2 : loopList (loopOf Tryz.f149 2) 3 = [] := by kernel_rfl
theorem symS_l2 (self : (List (Int × Int × Int × Bool × Unit) × Int × Int × Int × Unit) → Option ((List (Int × Int × Int × Bool × Unit) × Unit))) (hE : EnvOK Tryz.prog (symS_E self)) : CodeOK Tryz.prog 1 (.loop (loopOf Tryz.f149 2)) ((symS_h self).loop 2) := loop_ok hE (symS_s2_ok self) (LoopsOK_of symS_q2 trivial)
theorem symS_s1_ok (self : (List (Int × Int × Int × Bool × Unit) × Int × Int × Int × Unit) → Option ((List (Int × Int × Int × Bool × Unit) × Unit))) : ∀ v, symS_s1 self v = roundOf Tryz.prog (symS_E self) (symS_h self) 2 1 220 (loopOf Tryz.f149 1) symS_i1 symS_o1 v := by
 rintro ⟨a0, a1, a2, ⟨⟩⟩
 kernel_rfl
theorem symS_q1 : loopList (loopOf Tryz.f149 1) 2 = [] := by kernel_rfl
theorem symS_l1 (self : (List (Int × Int × Int × Bool × Unit) × Int × Int × Int × Unit) → Option ((List (Int × Int × Int × Bool × Unit) × Unit))) (hE : EnvOK Tryz.prog (symS_E self)) : CodeOK Tryz.prog 1 (.loop (loopOf Tryz.f149 1)) ((symS_h self).loop 1) := loop_ok hE (symS_s1_ok self) (LoopsOK_of symS_q1 trivial)
theorem symS_s0_ok (self : (List (Int × Int × Int × Bool × Unit) × Int × Int × Int × Unit) → Option ((List (Int × Int × Int × Bool × Unit) × Unit))) : ∀ v, symS_s0 self v = roundOf Tryz.prog (symS_E self) (symS_h self) 1 1 220 (loopOf Tryz.f149 0) symS_i0 symS_o0 v := by
 rintro ⟨a0, a1, a2, a3, ⟨⟩⟩
 kernel_rfl
theorem symS_q0 : loopList (loopOf Tryz.f149 0) 1 = [] := by kernel_rfl
theorem symS_l0 (self : (List (Int × Int × Int × Bool × Unit) × Int × Int × Int × Unit) → Option ((List (Int × Int × Int × Bool × Unit) × Unit))) (hE : EnvOK Tryz.prog (symS_E self)) : CodeOK Tryz.prog 1 (.loop (loopOf Tryz.f149 0)) ((symS_h self).loop 0) := loop_ok hE (symS_s0_ok self) (LoopsOK_of symS_q0 trivial)
theorem symS_okd (self : (List (Int × Int × Int × Bool × Unit) × Int × Int × Int × Unit) → Option ((List (Int × Int × Int × Bool × Unit) × Unit))) : ∀ v, symS_d self v = pevCall Tryz.prog (symS_E self) (symS_h self) Tryz.f149 symS_i symS_o symS_r v := by
 rintro ⟨a0, a1, a2, a3, ⟨⟩⟩
 kernel_rfl
theorem symS_q : loopList (bodyOf Tryz.f149) 0 = [(0, loopOf Tryz.f149 0), (1, loopOf Tryz.f149 1), (2, loopOf Tryz.f149 2), (3, loopOf Tryz.f149 3), (4, loopOf Tryz.f149 4)] := by kernel_rfl
theorem symS_fspec : ∀ n, SpecOK Tryz.prog 149 (mkCall 5 symS_i symS_o symS_r (symS_f n)) := by
 intro n
 induction n with
 | zero => exact mkCall_none fun _ => rfl
 | succ n ih =>
  have hE : EnvOK Tryz.prog (symS_E (symS_f n)) := Env.ext_ok E_rotS_ok ih ((by simp)) (fun _ => mkCall_in rfl rfl)
  let self := symS_f n
  exact call_spec hE Tryz.func149 (by kernel_rfl) (by kernel_rfl) rfl (symS_okd self) (LoopsOK_of symS_q ⟨(symS_l0 self hE), (symS_l1 self hE), (symS_l2 self hE), (symS_l3 self hE), (symS_l4 self hE), trivial⟩)
theorem symS_spec : SpecOK Tryz.prog 149 (mkCall 5 symS_i symS_o symS_r symS) := by
 have e : symS = symS_f 100 := funext symS_eq
 rw [e]
 exact symS_fspec _
def E_symS : Env := E_rotS.extC 149 4 73 (mkCall 5 symS_i symS_o symS_r symS)
theorem E_symS_ok : EnvOK Tryz.prog E_symS := Env.extC_ok E_rotS_ok symS_spec (mkCall_in rfl rfl)
end
end Go.Pev
end
section
namespace Go.Pev
open Go.Proofs
set_option maxRecDepth 100000
noncomputable section
-- slices.stableCmpFunc[archipelago/api.Tie]
abbrev stabS_h : Hints := { loop := fun n => match n with | 0 => loopBy 1 63 stabS_i0 stabS_o0 stabS_s0 | 1 => loopBy 1 63 stabS_i1 stabS_o1 stabS_s1 | 2 => loopBy 1 63 stabS_i2 stabS_o2 stabS_s2 | _ => fun _ _ _ => none }
theorem stabS_s2_ok : ∀ v, stabS_s2 v = roundOf Tryz.prog E_symS stabS_h 3 1 63 (loopOf Tryz.f117 2) stabS_i2 stabS_o2 v := by
 rintro ⟨a0, a1, a2, a3, a4, ⟨⟩⟩
 kernel_rfl
theorem stabS_q2 : loopList (loopOf Tryz.f117 2) 3 = [] := by kernel_rfl
theorem stabS_l2 : CodeOK Tryz.prog 1 (.loop (loopOf Tryz.f117 2)) (stabS_h.loop 2) := loop_ok E_symS_ok (stabS_s2_ok) (LoopsOK_of stabS_q2 trivial)
theorem stabS_s1_ok : ∀ v, stabS_s1 v = roundOf Tryz.prog E_symS stabS_h 2 1 63 (loopOf Tryz.f117 1) stabS_i1 stabS_o1 v := by
 rintro ⟨a0, a1, a2, ⟨⟩⟩
 kernel_rfl
theorem stabS_q1 : loopList (loopOf Tryz.f117 1) 2 = [(2, loopOf Tryz.f117 2)] := by kernel_rfl
theorem stabS_l1 : CodeOK Tryz.prog 1 (.loop (loopOf Tryz.f117 1)) (stabS_h.loop 1) := loop_ok E_symS_ok (stabS_s1_ok) (LoopsOK_of stabS_q1 ⟨stabS_l2, trivial⟩)
theorem stabS_s0_ok : ∀ v, stabS_s0 v = roundOf Tryz.prog E_symS stabS_h 1 1 63 (loopOf Tryz.f117 0) stabS_i0 stabS_o0 v := by
 rintro ⟨a0, a1, a2, a3, a4, ⟨⟩⟩
 kernel_rfl
theorem stabS_q0 : loopList (loopOf Tryz.f117 0) 1 = [] := by kernel_rfl
theorem stabS_l0 : CodeOK Tryz.prog 1 (.loop (loopOf Tryz.f117 0)) (stabS_h.loop 0) := loop_ok E_symS_ok (stabS_s0_ok) (LoopsOK_of stabS_q0 trivial)
theorem stabS_okd : ∀ v, stabS_d v = pevCall Tryz.prog E_symS stabS_h Tryz.f117 stabS_i stabS_o stabS_r v := by
 rintro ⟨a0, a1, ⟨⟩⟩
 kernel_rfl
theorem stabS_q : loopList (bodyOf Tryz.f117) 0 = [(0, loopOf Tryz.f117 0), (1, loopOf Tryz.f117 1)] := by kernel_rfl
theorem stabS_spec : SpecOK Tryz.prog 117 (mkCall 3 stabS_i stabS_o stabS_r stabS) := call_spec E_symS_ok Tryz.func117 (by kernel_rfl) (by kernel_rfl) rfl (fun v => (stabS_eq v).trans (stabS_okd v)) (LoopsOK_of stabS_q ⟨stabS_l0, stabS_l1, trivial⟩)
def E_stabS : Env := E_symS.extC 117 2 73 (mkCall 3 stabS_i stabS_o stabS_r stabS)
theorem E_stabS_ok : EnvOK Tryz.prog E_stabS := Env.extC_ok E_symS_ok stabS_spec (mkCall_in rfl rfl)
-- slices.SortStableFunc[[]archipelago/api.Tie,archipelago/api.Tie]
abbrev sortSS_h : Hints := {  }
theorem sortSS_okd : ∀ v, sortSS_d v = pevCall Tryz.prog E_stabS sortSS_h Tryz.f72 sortSS_i sortSS_o sortSS_r v := by
 rintro ⟨a0, ⟨⟩⟩
 kernel_rfl
theorem sortSS_q : loopList (bodyOf Tryz.f72) 0 = [] := by kernel_rfl
theorem sortSS_spec : SpecOK Tryz.prog 72 (mkCall 2 sortSS_i sortSS_o sortSS_r sortSS) := call_spec E_stabS_ok Tryz.func72 (by kernel_rfl) (by kernel_rfl) rfl (fun v => (sortSS_eq v).trans (sortSS_okd v)) (LoopsOK_of sortSS_q trivial)
def E_sortSS : Env := E_stabS.extC 72 1 73 (mkCall 2 sortSS_i sortSS_o sortSS_r sortSS)
theorem E_sortSS_ok : EnvOK Tryz.prog E_sortSS := Env.extC_ok E_stabS_ok sortSS_spec (mkCall_in rfl rfl)
-- archipelago/span.Spanning
abbrev spSpan_h : Hints := { loop := fun n => match n with | 0 => loopBy 0 36 spSpan_i0 spSpan_o0 spSpan_s0 | _ => fun _ _ _ => none }
theorem spSpan_s0_ok : ∀ v, spSpan_s0 v = roundOf Tryz.prog E_sortSS spSpan_h 1 0 36 (loopOf Tryz.f75 0) spSpan_i0 spSpan_o0 v := by
 rintro ⟨a0, a1, a2, a3, a4, ⟨⟩⟩
 kernel_rfl
theorem spSpan_q0 : loopList (loopOf Tryz.f75 0) 1 = [] := by kernel_rfl
theorem spSpan_l0 : CodeOK Tryz.prog 0 (.loop (loopOf Tryz.f75 0)) (spSpan_h.loop 0) := loop_ok E_sortSS_ok (spSpan_s0_ok) (LoopsOK_of spSpan_q0 trivial)
theorem spSpan_okd : ∀ v, spSpan_d v = pevCall Tryz.prog E_sortSS spSpan_h Tryz.f75 spSpan_i spSpan_o spSpan_r v := by
 rintro ⟨a0, a1, ⟨⟩⟩
 kernel_rfl
theorem spSpan_q : loopList (bodyOf Tryz.f75) 0 = [(0, loopOf Tryz.f75 0)] := by kernel_rfl
theorem spSpan_spec : SpecOK Tryz.prog 75 (mkCall 2 spSpan_i spSpan_o spSpan_r spSpan) := call_spec E_sortSS_ok Tryz.func75 (by kernel_rfl) (by kernel_rfl) rfl (fun v => (spSpan_eq v).trans (spSpan_okd v)) (LoopsOK_of spSpan_q ⟨spSpan_l0, trivial⟩)
def E_spSpan : Env := E_sortSS.ext 75 true true (mkCall 2 spSpan_i spSpan_o spSpan_r spSpan)
theorem E_spSpan_ok : EnvOK Tryz.prog E_spSpan := Env.ext_ok E_sortSS_ok spSpan_spec (fun _ => mkCall_local rfl rfl) (fun _ => mkCall_in rfl rfl)
-- archipelago/sound.Spanning
abbrev snSpan_h : Hints := { fp := fun n => match n with | 4 => [[0], [0], [0], [], [12], [], [], [], [], []] | _ => [] }
theorem snSpan_okd : ∀ v, snSpan_d v = pevCall Tryz.prog E_spSpan snSpan_h Tryz.f20 snSpan_i snSpan_o snSpan_r v := by
 rintro ⟨a0, ⟨⟩⟩
 kernel_rfl
theorem snSpan_q : loopList (bodyOf Tryz.f20) 0 = [] := by kernel_rfl
theorem snSpan_spec : SpecOK Tryz.prog 20 (mkCall 1 snSpan_i snSpan_o snSpan_r snSpan) := call_spec E_spSpan_ok Tryz.func20 (by kernel_rfl) (by kernel_rfl) rfl (fun v => (snSpan_eq v).trans (snSpan_okd v)) (LoopsOK_of snSpan_q trivial)
def E_snSpan : Env := E_spSpan.ext 20 true true (mkCall 1 snSpan_i snSpan_o snSpan_r snSpan)
theorem E_snSpan_ok : EnvOK Tryz.prog E_snSpan := Env.ext_ok E_spSpan_ok snSpan_spec (fun _ => mkCall_local rfl rfl) (fun _ => mkCall_in rfl rfl)
-- archipelago/sound.forests
abbrev snForests_h : Hints := { loop := fun n => match n with | 0 => loopBy 0 27 snForests_i0 snForests_o0 snForests_s0 | _ => fun _ _ _ => none }
theorem snForests_s0_ok : ∀ v, snForests_s0 v = roundOf Tryz.prog E_snSpan snForests_h 1 0 27 (loopOf Tryz.f79 0) snForests_i0 snForests_o0 v := by
 rintro ⟨a0, a1, a2, a3, ⟨⟩⟩
 kernel_rfl
theorem snForests_q0 : loopList (loopOf Tryz.f79 0) 1 = [] := by kernel_rfl
theorem snForests_l0 : CodeOK Tryz.prog 0 (.loop (loopOf Tryz.f79 0)) (snForests_h.loop 0) := loop_ok E_snSpan_ok (snForests_s0_ok) (LoopsOK_of snForests_q0 trivial)
theorem snForests_okd : ∀ v, snForests_d v = pevCall Tryz.prog E_snSpan snForests_h Tryz.f79 snForests_i snForests_o snForests_r v := by
 rintro ⟨a0, ⟨⟩⟩
 kernel_rfl
theorem snForests_q : loopList (bodyOf Tryz.f79) 0 = [(0, loopOf Tryz.f79 0)] := by kernel_rfl
theorem snForests_spec : SpecOK Tryz.prog 79 (mkCall 1 snForests_i snForests_o snForests_r snForests) := call_spec E_snSpan_ok Tryz.func79 (by kernel_rfl) (by kernel_rfl) rfl (fun v => (snForests_eq v).trans (snForests_okd v)) (LoopsOK_of snForests_q ⟨snForests_l0, trivial⟩)
def E_snForests : Env := E_snSpan.ext 79 true true (mkCall 1 snForests_i snForests_o snForests_r snForests)
theorem E_snForests_ok : EnvOK Tryz.prog E_snForests := Env.ext_ok E_snSpan_ok snForests_spec (fun _ => mkCall_local rfl rfl) (fun _ => mkCall_in rfl rfl)
-- archipelago/sound.Lying$1: gone through in place
theorem snLy1_b : Tryz.f81.body.isSome = true := by kernel_rfl
theorem snLy1_n : (Tryz.f81.name == "runtime.NumGoroutine") = false := by kernel_rfl
theorem snLy1_z : loops (bodyOf Tryz.f81) = 0 := by kernel_rfl
def E_snLy1_5 : Env := E_snForests.ext 81 false false (mkInline Tryz.prog E_snForests { fp := fun n => match n with | 1 => [[0], [10], [10], [], [], [10], [10], [10], [10], [], [], [], [], [], []] | _ => [] } Tryz.f81)
theorem E_snLy1_5_ok : EnvOK Tryz.prog E_snLy1_5 := Env.ext_ok E_snForests_ok (inline_spec E_snForests_ok Tryz.func81 snLy1_b snLy1_n snLy1_z) (by simp) (by simp)
-- slices.IndexFunc[[]archipelago/api.Tie,archipelago/api.Tie]
abbrev idxFuncT_ly_h : Hints := { loop := fun n => match n with | 0 => loopBy 1 19 idxFuncT_ly_i0 idxFuncT_ly_o0 idxFuncT_ly_s0 | _ => fun _ _ _ => none }
theorem idxFuncT_ly_s0_ok : ∀ v, idxFuncT_ly_s0 v = roundOf Tryz.prog E_snLy1_5 idxFuncT_ly_h 1 1 19 (loopOf Tryz.f124 0) idxFuncT_ly_i0 idxFuncT_ly_o0 v := by
 rintro ⟨a0, a1, a2, a3, ⟨⟩⟩
 kernel_rfl
theorem idxFuncT_ly_q0 : loopList (loopOf Tryz.f124 0) 1 = [] := by kernel_rfl
theorem idxFuncT_ly_l0 : CodeOK Tryz.prog 1 (.loop (loopOf Tryz.f124 0)) (idxFuncT_ly_h.loop 0) := loop_ok E_snLy1_5_ok (idxFuncT_ly_s0_ok) (LoopsOK_of idxFuncT_ly_q0 trivial)
theorem idxFuncT_ly_okd : ∀ v, idxFuncT_ly_d v = pevCall Tryz.prog E_snLy1_5 idxFuncT_ly_h Tryz.f124 idxFuncT_ly_i idxFuncT_ly_o idxFuncT_ly_r v := by
 rintro ⟨a0, a1, ⟨⟩⟩
 kernel_rfl
theorem idxFuncT_ly_q : loopList (bodyOf Tryz.f124) 0 = [(0, loopOf Tryz.f124 0)] := by kernel_rfl
theorem idxFuncT_ly_spec : SpecOK Tryz.prog 124 (mkCall 2 idxFuncT_ly_i idxFuncT_ly_o idxFuncT_ly_r idxFuncT_ly) := call_spec E_snLy1_5_ok Tryz.func124 (by kernel_rfl) (by kernel_rfl) rfl (fun v => (idxFuncT_ly_eq v).trans (idxFuncT_ly_okd v)) (LoopsOK_of idxFuncT_ly_q ⟨idxFuncT_ly_l0, trivial⟩)
def E_idxFuncT_ly : Env := E_snLy1_5.extC 124 1 81 (mkCall 2 idxFuncT_ly_i idxFuncT_ly_o idxFuncT_ly_r idxFuncT_ly)
theorem E_idxFuncT_ly_ok : EnvOK Tryz.prog E_idxFuncT_ly := Env.extC_ok E_snLy1_5_ok idxFuncT_ly_spec (mkCall_in rfl rfl)
-- slices.ContainsFunc[[]archipelago/api.Tie,archipelago/api.Tie]
abbrev contFuncT_ly_h : Hints := {  }
theorem contFuncT_ly_okd : ∀ v, contFuncT_ly_d v = pevCall Tryz.prog E_idxFuncT_ly contFuncT_ly_h Tryz.f80 contFuncT_ly_i contFuncT_ly_o contFuncT_ly_r v := by
 rintro ⟨a0, a1, ⟨⟩⟩
 kernel_rfl
theorem contFuncT_ly_q : loopList (bodyOf Tryz.f80) 0 = [] := by kernel_rfl
theorem contFuncT_ly_spec : SpecOK Tryz.prog 80 (mkCall 2 contFuncT_ly_i contFuncT_ly_o contFuncT_ly_r contFuncT_ly) := call_spec E_idxFuncT_ly_ok Tryz.func80 (by kernel_rfl) (by kernel_rfl) rfl (fun v => (contFuncT_ly_eq v).trans (contFuncT_ly_okd v)) (LoopsOK_of contFuncT_ly_q trivial)
def E_contFuncT_ly : Env := E_idxFuncT_ly.extC 80 1 81 (mkCall 2 contFuncT_ly_i contFuncT_ly_o contFuncT_ly_r contFuncT_ly)
theorem E_contFuncT_ly_ok : EnvOK Tryz.prog E_contFuncT_ly := Env.extC_ok E_idxFuncT_ly_ok contFuncT_ly_spec (mkCall_in rfl rfl)
-- archipelago/sound.Lying
abbrev snLying_h : Hints := {  }
theorem snLying_okd : ∀ v, snLying_d v = pevCall Tryz.prog E_contFuncT_ly snLying_h Tryz.f22 snLying_i snLying_o snLying_r v := by
 rintro ⟨a0, ⟨⟩⟩
 kernel_rfl
theorem snLying_q : loopList (bodyOf Tryz.f22) 0 = [] := by kernel_rfl
theorem snLying_spec : SpecOK Tryz.prog 22 (mkCall 1 snLying_i snLying_o snLying_r snLying) := call_spec E_contFuncT_ly_ok Tryz.func22 (by kernel_rfl) (by kernel_rfl) rfl (fun v => (snLying_eq v).trans (snLying_okd v)) (LoopsOK_of snLying_q trivial)
def E_snLying : Env := E_contFuncT_ly.ext 22 true true (mkCall 1 snLying_i snLying_o snLying_r snLying)
theorem E_snLying_ok : EnvOK Tryz.prog E_snLying := Env.ext_ok E_contFuncT_ly_ok snLying_spec (fun _ => mkCall_local rfl rfl) (fun _ => mkCall_in rfl rfl)
-- archipelago/sound.Halving
abbrev snHalving_h : Hints := { loop := fun n => match n with | 0 => loopBy 0 42 snHalving_i0 snHalving_o0 snHalving_s0 | 1 => loopBy 0 42 snHalving_i1 snHalving_o1 snHalving_s1 | _ => fun _ _ _ => none }
theorem snHalving_s1_ok : ∀ v, snHalving_s1 v = roundOf Tryz.prog E_snLying snHalving_h 2 0 42 (loopOf Tryz.f24 1) snHalving_i1 snHalving_o1 v := by
 rintro ⟨a0, a1, a2, a3, a4, a5, a6, a7, a8, a9, ⟨⟩⟩
 kernel_rfl
theorem snHalving_q1 : loopList (loopOf Tryz.f24 1) 2 = [] := by kernel_rfl
theorem snHalving_l1 : CodeOK Tryz.prog 0 (.loop (loopOf Tryz.f24 1)) (snHalving_h.loop 1) := loop_ok E_snLying_ok (snHalving_s1_ok) (LoopsOK_of snHalving_q1 trivial)
theorem snHalving_s0_ok : ∀ v, snHalving_s0 v = roundOf Tryz.prog E_snLying snHalving_h 1 0 42 (loopOf Tryz.f24 0) snHalving_i0 snHalving_o0 v := by
 rintro ⟨a0, a1, a2, a3, a4, ⟨⟩⟩
 kernel_rfl
theorem snHalving_q0 : loopList (loopOf Tryz.f24 0) 1 = [(1, loopOf Tryz.f24 1)] := by kernel_rfl
theorem snHalving_l0 : CodeOK Tryz.prog 0 (.loop (loopOf Tryz.f24 0)) (snHalving_h.loop 0) := loop_ok E_snLying_ok (snHalving_s0_ok) (LoopsOK_of snHalving_q0 ⟨snHalving_l1, trivial⟩)
theorem snHalving_okd : ∀ v, snHalving_d v = pevCall Tryz.prog E_snLying snHalving_h Tryz.f24 snHalving_i snHalving_o snHalving_r v := by
 rintro ⟨a0, ⟨⟩⟩
 kernel_rfl
theorem snHalving_q : loopList (bodyOf Tryz.f24) 0 = [(0, loopOf Tryz.f24 0)] := by kernel_rfl
theorem snHalving_spec : SpecOK Tryz.prog 24 (mkCall 1 snHalving_i snHalving_o snHalving_r snHalving) := call_spec E_snLying_ok Tryz.func24 (by kernel_rfl) (by kernel_rfl) rfl (fun v => (snHalving_eq v).trans (snHalving_okd v)) (LoopsOK_of snHalving_q ⟨snHalving_l0, trivial⟩)
def E_snHalving : Env := E_snLying.ext 24 true true (mkCall 1 snHalving_i snHalving_o snHalving_r snHalving)
theorem E_snHalving_ok : EnvOK Tryz.prog E_snHalving := Env.ext_ok E_snLying_ok snHalving_spec (fun _ => mkCall_local rfl rfl) (fun _ => mkCall_in rfl rfl)
-- archipelago/sound.Sound
abbrev snSound_h : Hints := {  }
theorem snSound_okd : ∀ v, snSound_d v = pevCall Tryz.prog E_snHalving snSound_h Tryz.f26 snSound_i snSound_o snSound_r v := by
 rintro ⟨a0, ⟨⟩⟩
 kernel_rfl
theorem snSound_q : loopList (bodyOf Tryz.f26) 0 = [] := by kernel_rfl
theorem snSound_spec : SpecOK Tryz.prog 26 (mkCall 1 snSound_i snSound_o snSound_r snSound) := call_spec E_snHalving_ok Tryz.func26 (by kernel_rfl) (by kernel_rfl) rfl (fun v => (snSound_eq v).trans (snSound_okd v)) (LoopsOK_of snSound_q trivial)
def E_snSound : Env := E_snHalving.ext 26 true true (mkCall 1 snSound_i snSound_o snSound_r snSound)
theorem E_snSound_ok : EnvOK Tryz.prog E_snSound := Env.ext_ok E_snHalving_ok snSound_spec (fun _ => mkCall_local rfl rfl) (fun _ => mkCall_in rfl rfl)
-- archipelago/sound.Levels$1: gone through in place
theorem snLev1_b : Tryz.f85.body.isSome = true := by kernel_rfl
theorem snLev1_n : (Tryz.f85.name == "runtime.NumGoroutine") = false := by kernel_rfl
theorem snLev1_z : loops (bodyOf Tryz.f85) = 0 := by kernel_rfl
def E_snLev1_6 : Env := E_snSound.ext 85 false false (mkInline Tryz.prog E_snSound {} Tryz.f85)
theorem E_snLev1_6_ok : EnvOK Tryz.prog E_snLev1_6 := Env.ext_ok E_snSound_ok (inline_spec E_snSound_ok Tryz.func85 snLev1_b snLev1_n snLev1_z) (by simp) (by simp)
end
end Go.Pev
end
section
namespace Go.Pev
open Go.Proofs
set_option maxRecDepth 100000
noncomputable section
-- archipelago/sound.total
abbrev snTotL_h : Hints := { loop := fun n => match n with | 0 => loopBy 0 26 snTotL_i0 snTotL_o0 snTotL_s0 | _ => fun _ _ _ => none }
theorem snTotL_s0_ok : ∀ v, snTotL_s0 v = roundOf Tryz.prog E_snLev1_6 snTotL_h 1 0 26 (loopOf Tryz.f84 0) snTotL_i0 snTotL_o0 v := by
 rintro ⟨a0, a1, a2, a3, ⟨⟩⟩
 kernel_rfl
theorem snTotL_q0 : loopList (loopOf Tryz.f84 0) 1 = [] := by kernel_rfl
theorem snTotL_l0 : CodeOK Tryz.prog 0 (.loop (loopOf Tryz.f84 0)) (snTotL_h.loop 0) := loop_ok E_snLev1_6_ok (snTotL_s0_ok) (LoopsOK_of snTotL_q0 trivial)
theorem snTotL_okd : ∀ v, snTotL_d v = pevCall Tryz.prog E_snLev1_6 snTotL_h Tryz.f84 snTotL_i snTotL_o snTotL_r v := by
 rintro ⟨a0, ⟨⟩⟩
 kernel_rfl
theorem snTotL_q : loopList (bodyOf Tryz.f84) 0 = [(0, loopOf Tryz.f84 0)] := by kernel_rfl
theorem snTotL_spec : SpecOK Tryz.prog 84 (mkCall 2 snTotL_i snTotL_o snTotL_r snTotL) := call_spec E_snLev1_6_ok Tryz.func84 (by kernel_rfl) (by kernel_rfl) rfl (fun v => (snTotL_eq v).trans (snTotL_okd v)) (LoopsOK_of snTotL_q ⟨snTotL_l0, trivial⟩)
def E_snTotL : Env := E_snLev1_6.extC 84 1 85 (mkCall 2 snTotL_i snTotL_o snTotL_r snTotL)
theorem E_snTotL_ok : EnvOK Tryz.prog E_snTotL := Env.extC_ok E_snLev1_6_ok snTotL_spec (mkCall_in rfl rfl)
-- archipelago/sound.Levels
abbrev snLevels_h : Hints := {  }
theorem snLevels_okd : ∀ v, snLevels_d v = pevCall Tryz.prog E_snTotL snLevels_h Tryz.f28 snLevels_i snLevels_o snLevels_r v := by
 rintro ⟨a0, ⟨⟩⟩
 kernel_rfl
theorem snLevels_q : loopList (bodyOf Tryz.f28) 0 = [] := by kernel_rfl
theorem snLevels_spec : SpecOK Tryz.prog 28 (mkCall 1 snLevels_i snLevels_o snLevels_r snLevels) := call_spec E_snTotL_ok Tryz.func28 (by kernel_rfl) (by kernel_rfl) rfl (fun v => (snLevels_eq v).trans (snLevels_okd v)) (LoopsOK_of snLevels_q trivial)
def E_snLevels : Env := E_snTotL.ext 28 true true (mkCall 1 snLevels_i snLevels_o snLevels_r snLevels)
theorem E_snLevels_ok : EnvOK Tryz.prog E_snLevels := Env.ext_ok E_snTotL_ok snLevels_spec (fun _ => mkCall_local rfl rfl) (fun _ => mkCall_in rfl rfl)
-- archipelago/sound.Weight$1: gone through in place
theorem snWei1_b : Tryz.f86.body.isSome = true := by kernel_rfl
theorem snWei1_n : (Tryz.f86.name == "runtime.NumGoroutine") = false := by kernel_rfl
theorem snWei1_z : loops (bodyOf Tryz.f86) = 0 := by kernel_rfl
def E_snWei1_7 : Env := E_snLevels.ext 86 false false (mkInline Tryz.prog E_snLevels {} Tryz.f86)
theorem E_snWei1_7_ok : EnvOK Tryz.prog E_snWei1_7 := Env.ext_ok E_snLevels_ok (inline_spec E_snLevels_ok Tryz.func86 snWei1_b snWei1_n snWei1_z) (by simp) (by simp)
-- archipelago/sound.total
abbrev snTotW_h : Hints := { loop := fun n => match n with | 0 => loopBy 0 26 snTotW_i0 snTotW_o0 snTotW_s0 | _ => fun _ _ _ => none }
theorem snTotW_s0_ok : ∀ v, snTotW_s0 v = roundOf Tryz.prog E_snWei1_7 snTotW_h 1 0 26 (loopOf Tryz.f84 0) snTotW_i0 snTotW_o0 v := by
 rintro ⟨a0, a1, a2, a3, ⟨⟩⟩
 kernel_rfl
theorem snTotW_q0 : loopList (loopOf Tryz.f84 0) 1 = [] := by kernel_rfl
theorem snTotW_l0 : CodeOK Tryz.prog 0 (.loop (loopOf Tryz.f84 0)) (snTotW_h.loop 0) := loop_ok E_snWei1_7_ok (snTotW_s0_ok) (LoopsOK_of snTotW_q0 trivial)
theorem snTotW_okd : ∀ v, snTotW_d v = pevCall Tryz.prog E_snWei1_7 snTotW_h Tryz.f84 snTotW_i snTotW_o snTotW_r v := by
 rintro ⟨a0, ⟨⟩⟩
 kernel_rfl
theorem snTotW_q : loopList (bodyOf Tryz.f84) 0 = [(0, loopOf Tryz.f84 0)] := by kernel_rfl
theorem snTotW_spec : SpecOK Tryz.prog 84 (mkCall 2 snTotW_i snTotW_o snTotW_r snTotW) := call_spec E_snWei1_7_ok Tryz.func84 (by kernel_rfl) (by kernel_rfl) rfl (fun v => (snTotW_eq v).trans (snTotW_okd v)) (LoopsOK_of snTotW_q ⟨snTotW_l0, trivial⟩)
def E_snTotW : Env := E_snWei1_7.extC 84 1 86 (mkCall 2 snTotW_i snTotW_o snTotW_r snTotW)
theorem E_snTotW_ok : EnvOK Tryz.prog E_snTotW := Env.extC_ok E_snWei1_7_ok snTotW_spec (mkCall_in rfl rfl)
-- archipelago/sound.Weight
abbrev snWeight_h : Hints := {  }
theorem snWeight_okd : ∀ v, snWeight_d v = pevCall Tryz.prog E_snTotW snWeight_h Tryz.f30 snWeight_i snWeight_o snWeight_r v := by
 rintro ⟨a0, ⟨⟩⟩
 kernel_rfl
theorem snWeight_q : loopList (bodyOf Tryz.f30) 0 = [] := by kernel_rfl
theorem snWeight_spec : SpecOK Tryz.prog 30 (mkCall 1 snWeight_i snWeight_o snWeight_r snWeight) := call_spec E_snTotW_ok Tryz.func30 (by kernel_rfl) (by kernel_rfl) rfl (fun v => (snWeight_eq v).trans (snWeight_okd v)) (LoopsOK_of snWeight_q trivial)
def E_snWeight : Env := E_snTotW.ext 30 true true (mkCall 1 snWeight_i snWeight_o snWeight_r snWeight)
theorem E_snWeight_ok : EnvOK Tryz.prog E_snWeight := Env.ext_ok E_snTotW_ok snWeight_spec (fun _ => mkCall_local rfl rfl) (fun _ => mkCall_in rfl rfl)
-- archipelago/sound.Best
abbrev snBest_h : Hints := { loop := fun n => match n with | 0 => loopBy 0 37 snBest_i0 snBest_o0 snBest_s0 | _ => fun _ _ _ => none }
theorem snBest_s0_ok : ∀ v, snBest_s0 v = roundOf Tryz.prog E_snWeight snBest_h 1 0 37 (loopOf Tryz.f17 0) snBest_i0 snBest_o0 v := by
 rintro ⟨a0, a1, a2, a3, a4, a5, ⟨⟩⟩
 kernel_rfl
theorem snBest_q0 : loopList (loopOf Tryz.f17 0) 1 = [] := by kernel_rfl
theorem snBest_l0 : CodeOK Tryz.prog 0 (.loop (loopOf Tryz.f17 0)) (snBest_h.loop 0) := loop_ok E_snWeight_ok (snBest_s0_ok) (LoopsOK_of snBest_q0 trivial)
theorem snBest_okd : ∀ v, snBest_d v = pevCall Tryz.prog E_snWeight snBest_h Tryz.f17 snBest_i snBest_o snBest_r v := by
 rintro ⟨a0, ⟨⟩⟩
 kernel_rfl
theorem snBest_q : loopList (bodyOf Tryz.f17) 0 = [(0, loopOf Tryz.f17 0)] := by kernel_rfl
theorem snBest_spec : SpecOK Tryz.prog 17 (mkCall 1 snBest_i snBest_o snBest_r snBest) := call_spec E_snWeight_ok Tryz.func17 (by kernel_rfl) (by kernel_rfl) rfl (fun v => (snBest_eq v).trans (snBest_okd v)) (LoopsOK_of snBest_q ⟨snBest_l0, trivial⟩)
def E_snBest : Env := E_snWeight.ext 17 true true (mkCall 1 snBest_i snBest_o snBest_r snBest)
theorem E_snBest_ok : EnvOK Tryz.prog E_snBest := Env.ext_ok E_snWeight_ok snBest_spec (fun _ => mkCall_local rfl rfl) (fun _ => mkCall_in rfl rfl)
-- archipelago/archipelagolaw24.alive
abbrev alive24_h : Hints := {  }
theorem alive24_okd : ∀ v, alive24_d v = pevCall Tryz.prog E_snBest alive24_h Tryz.f15 alive24_i alive24_o alive24_r v := by
 rintro ⟨⟨⟩⟩
 kernel_rfl
theorem alive24_q : loopList (bodyOf Tryz.f15) 0 = [] := by kernel_rfl
theorem alive24_spec : SpecOK Tryz.prog 15 (mkCall 0 alive24_i alive24_o alive24_r alive24) := call_spec E_snBest_ok Tryz.func15 (by kernel_rfl) (by kernel_rfl) rfl (fun v => (alive24_eq v).trans (alive24_okd v)) (LoopsOK_of alive24_q trivial)
def E_alive24 : Env := E_snBest.ext 15 true true (mkCall 0 alive24_i alive24_o alive24_r alive24)
theorem E_alive24_ok : EnvOK Tryz.prog E_alive24 := Env.ext_ok E_snBest_ok alive24_spec (fun _ => mkCall_local rfl rfl) (fun _ => mkCall_in rfl rfl)
-- archipelago/archipelagolaw24.great
abbrev great24_h : Hints := {  }
theorem great24_okd : ∀ v, great24_d v = pevCall Tryz.prog E_alive24 great24_h Tryz.f16 great24_i great24_o great24_r v := by
 rintro ⟨a0, ⟨⟩⟩
 kernel_rfl
theorem great24_q : loopList (bodyOf Tryz.f16) 0 = [] := by kernel_rfl
theorem great24_spec : SpecOK Tryz.prog 16 (mkCall 1 great24_i great24_o great24_r great24) := call_spec E_alive24_ok Tryz.func16 (by kernel_rfl) (by kernel_rfl) rfl (fun v => (great24_eq v).trans (great24_okd v)) (LoopsOK_of great24_q trivial)
def E_great24 : Env := E_alive24.ext 16 true true (mkCall 1 great24_i great24_o great24_r great24)
theorem E_great24_ok : EnvOK Tryz.prog E_great24 := Env.ext_ok E_alive24_ok great24_spec (fun _ => mkCall_local rfl rfl) (fun _ => mkCall_in rfl rfl)
-- archipelago/archipelagolaw24.SoundTop
abbrev soundTop_h : Hints := { loop := fun n => match n with | 0 => loopBy 0 54 soundTop_i0 soundTop_o0 soundTop_s0 | _ => fun _ _ _ => none, fp := fun n => match n with | 11 => [[0], [], [0], [0], [], [], [], [], [], [], [], [0], [], [0], [], [], [], [], [0], [], [], [], []] | _ => [] }
theorem soundTop_s0_ok : ∀ v, soundTop_s0 v = roundOf Tryz.prog E_great24 soundTop_h 1 0 54 (loopOf Tryz.f6 0) soundTop_i0 soundTop_o0 v := by
 rintro ⟨a0, a1, a2, a3, ⟨⟩⟩
 kernel_rfl
theorem soundTop_q0 : loopList (loopOf Tryz.f6 0) 1 = [] := by kernel_rfl
theorem soundTop_l0 : CodeOK Tryz.prog 0 (.loop (loopOf Tryz.f6 0)) (soundTop_h.loop 0) := loop_ok E_great24_ok (soundTop_s0_ok) (LoopsOK_of soundTop_q0 trivial)
theorem soundTop_okd : ∀ v, soundTop_d v = pevCall Tryz.prog E_great24 soundTop_h Tryz.f6 soundTop_i soundTop_o soundTop_r v := by
 rintro ⟨a0, ⟨⟩⟩
 kernel_rfl
theorem soundTop_q : loopList (bodyOf Tryz.f6) 0 = [(0, loopOf Tryz.f6 0)] := by kernel_rfl
theorem soundTop_spec : SpecOK Tryz.prog 6 (mkCall 1 soundTop_i soundTop_o soundTop_r soundTop) := call_spec E_great24_ok Tryz.func6 (by kernel_rfl) (by kernel_rfl) rfl (fun v => (soundTop_eq v).trans (soundTop_okd v)) (LoopsOK_of soundTop_q ⟨soundTop_l0, trivial⟩)
end
end Go.Pev
end
section

end
