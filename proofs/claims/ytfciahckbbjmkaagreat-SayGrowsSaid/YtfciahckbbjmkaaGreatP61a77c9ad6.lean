/- A part of the proofs of this seat: WKQ19w WKQ19v WS27u WS27a WS27b WS27c WKQ19u WS27r WS27s WS27v WS27x W22a W22b W22c W22d VL18a VL18c VL18d VL18e VL18f VL18g VL18h VL18i VL18j VL18k VL18l VL18m VL18b VL18n W22e W22f UQ19a UQ19c UQ19d UQ19e UQ19f UQ19g UQ19h UQ19i UQ19j UQ19z UQ19o W22g W22h W22i W22j W22k W22l W22m W22n W22o W22p W22q W22r WS27z W22s G27gP1 G27gP2 G27gP3 G27gP4 G27gP5. -/
import Derived.Test.YtfciahckbbjmkaaGreatP1687fbb166
import Derived.KernelRfl
import Derived.Test.YtfciahckbbjmkaaGreatProg
set_option linter.unusedVariables false
set_option linter.unusedSimpArgs false
set_option linter.unusedSectionVars false
section
namespace Go.Pev.Pl
open Tok
def Same (rings : List (List Int)) (a b : Int) : Prop := ∃ A ∈ rings, a ∈ A ∧ b ∈ A
structure FC (n : Int) (rings : List (List Int)) (l : List Edge) : Prop where
  fr : FR n rings
  sam : ∀ a b, In n a → In n b → (Same rings a b ↔ Con l a b)
  arcs : ∀ A ∈ rings, ∀ u v, okT n (.arc u v) → arcT n u v ∈ A → ∃ e ∈ l, (e.1 = u ∧ e.2.1 = v) ∨ (e.1 = v ∧ e.2.1 = u)
theorem FR.same_plc {n : Int} {rings : List (List Int)} (h : FR n rings) {a b : Int} (ia : In n a) (ib : In n b) : plc rings a = plc rings b ↔ Same rings a b := by
  obtain ⟨i, A, pa, hi, ha, _⟩ := plc_in (h.cov a ia)
  obtain ⟨j, B, pb, hj, hb, _⟩ := plc_in (h.cov b ib)
  rw [pa, pb]
  constructor
  · intro e
    have : i = j := by omega
    subst this
    rw [hi] at hj
    cases hj
    exact ⟨A, List.mem_of_getElem? hi, ha, hb⟩
  · rintro ⟨K, hK, h1, h2⟩
    obtain ⟨k, hk⟩ : ∃ k : Nat, rings[k]? = some K := by
      obtain ⟨k, hk, rfl⟩ := List.getElem_of_mem hK
      exact ⟨k, List.getElem?_eq_getElem hk⟩
    rw [h.uniq hi hk ia.2.2.2 ha h1, h.uniq hj hk ib.2.2.2 hb h2]
theorem FR.one {n : Int} {rings : List (List Int)} (h : FR n rings) {A B : List Int} (hA : A ∈ rings) (hB : B ∈ rings) {v : Int} (iv : v < n) (h1 : v ∈ A) (h2 : v ∈ B) : A = B := by
  obtain ⟨i, hi, rfl⟩ := List.getElem_of_mem hA
  obtain ⟨j, hj, rfl⟩ := List.getElem_of_mem hB
  have := h.uniq (List.getElem?_eq_getElem hi) (List.getElem?_eq_getElem hj) iv h1 h2
  subst this
  rfl
theorem Same.perm {a b : List (List Int)} (h : a.Perm b) (x y : Int) : Same a x y ↔ Same b x y := by
  constructor
  · rintro ⟨A, hA, h1⟩; exact ⟨A, h.mem_iff.1 hA, h1⟩
  · rintro ⟨A, hA, h1⟩; exact ⟨A, h.mem_iff.2 hA, h1⟩
theorem link_arcs {n u v x y : Int} {A B : List Int} (hA : TI n A) (hB : TI n B) (hu : u ∈ A) (hv : v ∈ B) (iu : In n u) (iv : In n v) (hd : Dis n A B) (ho : okT n (.arc x y)) (h : arcT n x y ∈ linkAll n A B u v) : arcT n x y ∈ A ∨ arcT n x y ∈ B ∨ (x = u ∧ y = v) ∨ (x = v ∧ y = u) := by
  obtain ⟨_, l2, _, huv, ho2⟩ := link_ring hA hB hu hv iu iv hd
  have pA := (rotAt_irot hu).perm
  have pB := (rotAt_irot hv).perm
  have g := arc_ge ho
  rw [linkAll, List.mem_cons, List.mem_cons, List.mem_append, List.mem_cons] at h
  rcases h with h | h | h | h | h
  · have := iu.2.2.2; omega
  · rw [arcT_enc ho, arcT_enc ho2] at h
    have := enc_inj ho ho2 h
    cases this
    exact .inr (.inr (.inl ⟨rfl, rfl⟩))
  · exact .inr (.inl (pB.mem_iff.2 h))
  · rw [arcT_enc ho, arcT_enc (okT_swap ho2)] at h
    have := enc_inj ho (okT_swap ho2) h
    cases this
    exact .inr (.inr (.inr ⟨rfl, rfl⟩))
  · refine .inl (pA.mem_iff.2 ?_)
    rw [l2]
    exact List.mem_cons_of_mem _ h
theorem FC_link {n : Int} {rings : List (List Int)} {l : List Edge} {e : Edge} (h : FC n rings l) (iu : In n e.1) (iv : In n e.2.1) :
    ∃ zs q, tlink ((n, (rings, ())), e.1, e.2.1, ()) = some (n, zs, q, ()) ∧ FC n zs (l ++ [e]) ∧ (q = 0 ∧ zs.length + 1 = rings.length ∨ q = 5 ∧ zs = rings) := by
  have hF := h.fr
  obtain ⟨i, A, pu, hi, hu, _⟩ := plc_in (hF.cov _ iu)
  obtain ⟨j, B, pv, hj, hv, _⟩ := plc_in (hF.cov _ iv)
  have mA := List.mem_of_getElem? hi
  have mB := List.mem_of_getElem? hj
  by_cases hij : i = j
  · have hpe : plc rings e.1 = plc rings e.2.1 := by rw [pu, pv, hij]
    refine ⟨rings, 5, link_there hF iu iv hpe, ⟨hF, fun a b ia ib => ?_, fun A hA u v ho hm => ?_⟩, .inr ⟨rfl, rfl⟩⟩
    · rw [h.sam a b ia ib, Con.snoc]
      have hc : Con l e.1 e.2.1 := (h.sam _ _ iu iv).1 ((hF.same_plc iu iv).1 hpe)
      constructor
      · exact .inl
      · rintro (g | ⟨g1, g2⟩ | ⟨g1, g2⟩)
        · exact g
        · exact g1.trans (hc.trans g2)
        · exact g1.trans (hc.symm.trans g2)
    · obtain ⟨e', h1, h2⟩ := h.arcs A hA u v ho hm
      exact ⟨e', by simp [h1], h2⟩
  · obtain ⟨zs, rest, q1, q3, q4, q5, q6⟩ := link_ok hF iu iv hi hj hu hv hij
    have gA := hF.rg A mA
    have gB := hF.rg B mB
    obtain ⟨l1, l2, l3, huv, ho⟩ := link_ring gA.2.2.2 gB.2.2.2 hu hv iu iv q6
    obtain ⟨hRG, hrot⟩ := RG_plain l1
    have len1 := q4.length_eq
    have len2 := q5.length_eq
    simp only [List.length_cons] at len1 len2
    refine ⟨zs, 0, q1, ⟨q3, fun a b ia ib => ?_, fun K hK x y hxy hm => ?_⟩, .inl ⟨rfl, by omega⟩⟩
    · rw [Same.perm q5, Con.snoc, ← h.sam a b ia ib, ← h.sam a _ ia iu, ← h.sam _ b iv ib, ← h.sam a _ ia iv, ← h.sam _ b iu ib]
      have pmem : ∀ x, In n x → (x ∈ plain (linkAll n A B e.1 e.2.1) ↔ x ∈ A ∨ x ∈ B) := fun x ix => by rw [← hrot.perm.mem_iff]; exact l3 x ix.2.2.2
      have sA : ∀ x, In n x → (Same rings x e.1 ↔ x ∈ A) := fun x ix => by
        constructor
        · rintro ⟨K, hK, h1, h2⟩
          rw [hF.one mA hK iu.2.2.2 hu h2]; exact h1
        · intro hx; exact ⟨A, mA, hx, hu⟩
      have sB : ∀ x, In n x → (Same rings x e.2.1 ↔ x ∈ B) := fun x ix => by
        constructor
        · rintro ⟨K, hK, h1, h2⟩
          rw [hF.one mB hK iv.2.2.2 hv h2]; exact h1
        · intro hx; exact ⟨B, mB, hx, hv⟩
      have sy : ∀ x y, Same rings x y ↔ Same rings y x := fun x y => ⟨fun ⟨K, a, b, c⟩ => ⟨K, a, c, b⟩, fun ⟨K, a, b, c⟩ => ⟨K, a, c, b⟩⟩
      rw [sA a ia, sB a ia, sy e.2.1 b, sB b ib, sy e.1 b, sA b ib]
      have hs : Same rings a b ↔ (a ∈ A ∧ b ∈ A) ∨ (a ∈ B ∧ b ∈ B) ∨ ∃ K ∈ rest, a ∈ K ∧ b ∈ K := by
        rw [Same.perm q4]
        simp only [Same, List.mem_cons, exists_eq_or_imp]
      have hz : Same (plain (linkAll n A B e.1 e.2.1) :: rest) a b ↔ ((a ∈ A ∨ a ∈ B) ∧ (b ∈ A ∨ b ∈ B)) ∨ ∃ K ∈ rest, a ∈ K ∧ b ∈ K := by
        simp only [Same, List.mem_cons, exists_eq_or_imp, pmem a ia, pmem b ib]
      rw [hs, hz]
      constructor
      · rintro (⟨h1 | h1, h2 | h2⟩ | h)
        · exact .inl (.inl ⟨h1, h2⟩)
        · exact .inr (.inl ⟨h1, h2⟩)
        · exact .inr (.inr ⟨h1, h2⟩)
        · exact .inl (.inr (.inl ⟨h1, h2⟩))
        · exact .inl (.inr (.inr h))
      · rintro ((⟨h1, h2⟩ | ⟨h1, h2⟩ | h) | ⟨h1, h2⟩ | ⟨h1, h2⟩)
        · exact .inl ⟨.inl h1, .inl h2⟩
        · exact .inl ⟨.inr h1, .inr h2⟩
        · exact .inr h
        · exact .inl ⟨.inl h1, .inr h2⟩
        · exact .inl ⟨.inr h1, .inl h2⟩
    · have old : ∀ K ∈ rings, arcT n x y ∈ K → ∃ e' ∈ l ++ [e], (e'.1 = x ∧ e'.2.1 = y) ∨ (e'.1 = y ∧ e'.2.1 = x) := fun K hK hm => by
        obtain ⟨e', h1, h2⟩ := h.arcs K hK x y hxy hm
        exact ⟨e', by simp [h1], h2⟩
      rcases List.mem_cons.1 (q5.mem_iff.1 hK) with rfl | hK
      · rcases link_arcs gA.2.2.2 gB.2.2.2 hu hv iu iv q6 hxy (hrot.perm.mem_iff.2 hm) with g | g | ⟨g1, g2⟩ | ⟨g1, g2⟩
        · exact old A mA g
        · exact old B mB g
        · exact ⟨e, by simp, .inl ⟨g1.symm, g2.symm⟩⟩
        · exact ⟨e, by simp, .inr ⟨g2.symm, g1.symm⟩⟩
      · exact old K (q4.mem_iff.2 (by simp [hK])) hm
theorem FC_singles {N : Nat} (h1 : 1 ≤ N) (h2 : N ≤ 64) : FC (N : Int) (singles N) [] := by
  have hS : ∀ A ∈ singles N, ∃ k : Nat, k < N ∧ A = [(k : Int)] := fun A hA => by
    simp only [singles, List.mem_map, List.mem_range] at hA
    obtain ⟨k, hk, rfl⟩ := hA
    exact ⟨k, hk, rfl⟩
  have key : ∀ k, k < N → In (N : Int) (k : Int) := fun k hk => ⟨by omega, by omega, by omega, by omega⟩
  refine ⟨⟨⟨by omega, by omega⟩, fun l hl => ?_, ?_, ?_, fun v hv => ?_⟩, fun a b ia ib => ?_, fun A hA u v ho hm => ?_⟩
  · obtain ⟨k, hk, rfl⟩ := hS l hl
    refine ⟨⟨by simp, fun x hx => ?_, by simp⟩, by simp, rfl, (TI_one (N : Int) k).2 (key k hk)⟩
    simp only [List.mem_singleton] at hx
    omega
  · rw [singles, List.pairwise_map]
    exact List.pairwise_lt_range.imp fun h => by simp only [hd, List.headD_cons]; omega
  · rw [singles, List.pairwise_map]
    exact List.pairwise_lt_range.imp fun {a b} h t ht _ ht2 => by
      simp only [List.mem_singleton] at ht ht2
      omega
  · obtain ⟨k, rfl⟩ := Int.eq_ofNat_of_zero_le hv.2.2.1
    have := hv.2.2.2
    exact ⟨[(k : Int)], by simp only [singles, List.mem_map, List.mem_range]; exact ⟨k, by omega, rfl⟩, by simp⟩
  · constructor
    · rintro ⟨A, hA, h1, h2⟩
      obtain ⟨k, _, rfl⟩ := hS A hA
      simp only [List.mem_singleton] at h1 h2
      rw [h1, h2]
      exact .refl _
    · intro hc
      have := hc.nil
      subst this
      obtain ⟨k, rfl⟩ := Int.eq_ofNat_of_zero_le ia.2.2.1
      have := ia.2.2.2
      exact ⟨[(k : Int)], by simp only [singles, List.mem_map, List.mem_range]; exact ⟨k, by omega, rfl⟩, by simp, by simp⟩
  · obtain ⟨k, hk, rfl⟩ := hS A hA
    simp only [List.mem_singleton] at hm
    have := arc_ge ho
    omega
theorem ends_val (l : List Edge) (hs : l.length < 1073741824) : ends (l, ()) = some (l.flatMap fun e => [e.1, e.2.1], ()) := by
  rw [ends_eq, ends_d]
  have e := walkL (step := ends_s0) (fun i (a : List Int) => (a, l, dlen l, (i : Int), ())) l (fun x a => .inl (a ++ [x.1, x.2.1])) (fun a => .inl (a, ())) (fun i a => a.length = 2 * i) (by omega)
    (fun i x a hi hx h1 => by
      refine ⟨fun m' h' => ?_, fun r h' => by cases h'⟩
      cases h'
      rw [ends_s0, dlen_l, ilt_nat, decide_eq_true hi]
      simp only [idx_some hx]
      rw [wrap_add1 (by omega), fits_l (by simp only [dlen_l, List.length_cons, List.length_nil]; omega)]
      exact ⟨rfl, by simp; omega⟩)
    (fun a _ => by rw [ends_s0, dlen_l, ilt_nat, decide_eq_false (by omega)]) [] rfl
  have e' : iterL ends_s0 many ([], l, dlen l, (0 : Int), ()) = _ := e
  rw [e', walk_fold]
  have hf : ∀ (xs : List Edge) (acc : List Int), xs.foldl (fun a x => a ++ [x.1, x.2.1]) acc = acc ++ xs.flatMap fun e => [e.1, e.2.1] := by
    intro xs
    induction xs with
    | nil => intro acc; simp
    | cons x xs ih => intro acc; rw [List.foldl_cons, ih, List.flatMap_cons]; simp
  rw [hf]
  rfl
theorem ends_all (n : Int) (l : List Edge) : ((l.flatMap fun e => [e.1, e.2.1]).all fun v => decide (In n v)) = l.all fun e => decide (In n e.1 ∧ In n e.2.1) := by
  induction l with
  | nil => rfl
  | cons e l ih =>
    rw [List.flatMap_cons, List.all_append, List.all_cons, ih]
    simp
theorem ends_len (l : List Edge) : (l.flatMap fun e => [e.1, e.2.1]).length = 2 * l.length := by
  induction l with
  | nil => rfl
  | cons e l ih => rw [List.flatMap_cons, List.length_append, ih]; simp; omega
theorem links_loop {n : Int} (l : List Edge) (hs : l.length < 1073741824) (ha : ∀ e ∈ l, In n e.1 ∧ In n e.2.1) :
    ∀ (m i cnt : Nat) (rings : List (List Int)) (taken : List Bool), i + m = l.length → taken.length = i → FC n rings (l.take i) → m < cnt →
    ∃ zs taken', iterO eachLink_s0 cnt (n, rings, (0 : Int), taken, l, (l.length : Int), (i : Int), ()) = some (.inl (n, zs, (0 : Int), taken', ())) ∧ FC n zs l ∧ taken'.length = l.length := by
  intro m
  induction m with
  | zero =>
    intro i cnt rings taken hi ht h hc
    obtain ⟨cnt, rfl⟩ : ∃ c, cnt = c + 1 := ⟨cnt - 1, by omega⟩
    rw [List.take_of_length_le (by omega)] at h
    refine ⟨rings, taken, ?_, h, by omega⟩
    rw [iterO, eachLink_s0, ilt_nat, decide_eq_false (by omega)]
  | succ m ih =>
    intro i cnt rings taken hi ht h hc
    obtain ⟨cnt, rfl⟩ : ∃ c, cnt = c + 1 := ⟨cnt - 1, by omega⟩
    have hi' : i < l.length := by omega
    have hx : l[i]? = some l[i] := List.getElem?_eq_getElem hi'
    obtain ⟨iu, iv⟩ := ha _ (List.getElem_mem hi')
    obtain ⟨zs, q, e1, e2, _⟩ := FC_link h iu iv
    rw [iterO, eachLink_s0, ilt_nat, decide_eq_true hi']
    simp only [idx_some hx, e1]
    rw [wrap_add1 (by omega), fits_l (by simp only [dlen_l, List.length_cons, List.length_nil]; omega)]
    rw [← List.take_succ_eq_append_getElem hi'] at e2
    exact ih (i + 1) cnt zs _ (by omega) (by simp [dapp_l, ht]) e2 (by omega)
theorem fof_val (k : Int) (l : List Edge) (hk : Sz k) (hs : l.length < 1073741824) :
    ((∀ e ∈ l, In k e.1 ∧ In k e.2.1) ∧ ∃ rings, fof (k, l, ()) = some ((k, (rings, ())), 0, ()) ∧ FC k rings l) ∨
    (¬ (∀ e ∈ l, In k e.1 ∧ In k e.2.1) ∧ fof (k, l, ()) = some ((0, ([], ())), 10, ())) := by
  have hmany : 9223372036854775808 < many := by simp only [many]; omega
  rw [fof_eq, fof_d]
  have hm : makeOut k = (k, singles k.toNat, 0, ()) := by rw [makeOut, if_pos hk]
  obtain ⟨s1, s2⟩ := hk
  obtain ⟨N, rfl⟩ := Int.eq_ofNat_of_zero_le (show 0 ≤ k by omega)
  have h0 := FC_singles (N := N) (by omega) (by omega)
  have hD := h0.fr.dom
  have hRF := RF_iff.2 h0.fr
  have hfl := ends_len l
  have hth : fthere (((N : Int), (singles N, ())), l.flatMap fun e => [e.1, e.2.1], ()) = some (if ∀ e ∈ l, In (N : Int) e.1 ∧ In (N : Int) e.2.1 then 0 else 10, ()) := by
    rw [fthere_val _ _ _ hD (by omega), ends_all, askE, if_pos hRF]
    by_cases ha : ∀ e ∈ l, In (N : Int) e.1 ∧ In (N : Int) e.2.1
    · rw [if_pos ha, if_pos (List.all_eq_true.2 fun e he => decide_eq_true (ha e he))]
    · rw [if_neg ha, if_neg]
      intro hc
      exact ha fun e he => of_decide_eq_true (List.all_eq_true.1 hc e he)
  simp only [tmake_val, hm, Int.toNat_natCast, ieq_self, Bool.not_true]
  rw [flinks_eq, flinks_d, eachLink_eq, eachLink_d]
  by_cases ha : ∀ e ∈ l, In (N : Int) e.1 ∧ In (N : Int) e.2.1
  · refine .inl ⟨ha, ?_⟩
    rw [if_pos ha] at hth
    obtain ⟨zs, taken, e1, e2, _⟩ := links_loop l hs ha l.length 0 many (singles N) [] (by omega) rfl (by rw [List.take_zero]; exact h0) (by omega)
    have e1' : iterO eachLink_s0 many ((N : Int), singles N, (0 : Int), [], l, (l.length : Int), (0 : Int), ()) = _ := e1
    simp only [ends_val l hs, hth, ieq_self, Bool.not_true, iterL_eq, dlen_l, e1']
    exact ⟨zs, rfl, e2⟩
  · refine .inr ⟨ha, ?_⟩
    rw [if_neg ha] at hth
    simp only [ends_val l hs, hth, ieq_dec]
    rfl
end Go.Pev.Pl
end
section
namespace Go.Pev.Pl
open Tok
def cl (out : List Int) (v : Int) : Int := out.getD v.toNat 0
def CI (N : Nat) (l : List Edge) (out : List Int) : Prop := out.length = N ∧ ∀ k, k < N → 0 ≤ out.getD k 0 ∧ out.getD k 0 ≤ (k : Int) ∧ Con l (k : Int) (out.getD k 0)
theorem sum_set : ∀ (l : List Int) (k : Nat) (x : Int), k < l.length → (l.set k x).sum = l.sum - l.getD k 0 + x := by
  intro l
  induction l with
  | nil => intro k x h; simp at h
  | cons y l ih =>
    intro k x h
    cases k with
    | zero => simp; omega
    | succ k =>
      have := ih k x (by simpa using h)
      simp only [List.set_cons_succ, List.sum_cons, List.getD_cons_succ, this]
      omega
theorem sum_bounds {N : Nat} {l : List Edge} {out : List Int} (h : CI N l out) (hN : N ≤ 64) : 0 ≤ out.sum ∧ out.sum ≤ 4096 := by
  obtain ⟨h1, h2⟩ := h
  have key : ∀ (xs : List Int), (∀ x ∈ xs, 0 ≤ x ∧ x ≤ 64) → 0 ≤ xs.sum ∧ xs.sum ≤ 64 * (xs.length : Int) := by
    intro xs
    induction xs with
    | nil => intro _; simp
    | cons x xs ih =>
      intro h
      have h3 := ih fun y hy => h y (List.mem_cons_of_mem _ hy)
      have h4 := h x (by simp)
      simp only [List.sum_cons, List.length_cons]
      omega
  have := key out fun x hx => by
    obtain ⟨k, hk, rfl⟩ := List.getElem_of_mem hx
    have h5 := h2 k (by omega)
    rw [List.getD_eq_getElem?_getD, List.getElem?_eq_getElem hk, Option.getD_some] at h5
    omega
  omega
theorem sweep (N : Nat) (l : List Edge) (hs : l.length < 1073741824) (ha : ∀ e ∈ l, In (N : Int) e.1 ∧ In (N : Int) e.2.1) :
    ∀ (m i cnt : Nat) (out : List Int) (more : Bool), i + m = l.length → CI N l out → m < cnt →
    ∃ out' more', iterO classes19_s2 cnt ((N : Int), l, out, more, (i : Int), ()) = some (.inl ((N : Int), l, out', more', ())) ∧ CI N l out' ∧
      ((more' = more ∧ out' = out ∧ ∀ e ∈ l.drop i, cl out e.1 = cl out e.2.1) ∨ (more' = true ∧ out'.sum < out.sum)) := by
  intro m
  induction m with
  | zero =>
    intro i cnt out more hi h hc
    obtain ⟨cnt, rfl⟩ : ∃ c, cnt = c + 1 := ⟨cnt - 1, by omega⟩
    refine ⟨out, more, ?_, h, .inl ⟨rfl, rfl, ?_⟩⟩
    · rw [iterO, classes19_s2, dlen_l, ilt_nat, decide_eq_false (by omega)]
    · rw [List.drop_of_length_le (by omega)]
      intro e he; cases he
  | succ m ih =>
    intro i cnt out more hi h hc
    obtain ⟨cnt, rfl⟩ : ∃ c, cnt = c + 1 := ⟨cnt - 1, by omega⟩
    have hi' : i < l.length := by omega
    have hx : l[i]? = some l[i] := List.getElem?_eq_getElem hi'
    have hm := List.getElem_mem hi'
    have hdr : l.drop i = l[i] :: l.drop (i + 1) := List.drop_eq_getElem_cons hi'
    rw [iterO, classes19_s2, dlen_l, ilt_nat, decide_eq_true hi']
    simp only [idx_some hx]
    rw [hdr, wrap_add1 (by omega)]
    generalize l[i] = e at *
    obtain ⟨iu, iv⟩ := ha e hm
    have hcon := Con.edge e hm
    obtain ⟨eu, ev, eu'⟩ := e
    simp only at iu iv hcon ⊢
    obtain ⟨u, rfl⟩ := Int.eq_ofNat_of_zero_le iu.2.2.1
    obtain ⟨v, rfl⟩ := Int.eq_ofNat_of_zero_le iv.2.2.1
    have hu : u < N := by have := iu.2.2.2; omega
    have hv : v < N := by have := iv.2.2.2; omega
    have hul : u < out.length := by rw [h.1]; exact hu
    have hvl : v < out.length := by rw [h.1]; exact hv
    rw [ilt_eq, decide_eq_false (by omega)]
    simp only []
    rw [ilt_eq, decide_eq_false (by omega)]
    simp only []
    rw [ile_eq, decide_eq_false (by omega)]
    simp only []
    rw [ile_eq, decide_eq_false (by omega)]
    simp only [idx_l (0 : Int) hul, idx_l (0 : Int) hvl, dget_l, dset_l, ieq_dec]
    by_cases hq : out.getD u 0 = out.getD v 0
    · rw [decide_eq_true hq]
      obtain ⟨out', more', e1, e2, e3⟩ := ih (i + 1) cnt out more (by omega) h (by omega)
      refine ⟨out', more', e1, e2, ?_⟩
      rcases e3 with ⟨g1, g2, g3⟩ | g
      · refine .inl ⟨g1, g2, fun e' he' => ?_⟩
        rcases List.mem_cons.1 he' with rfl | he'
        · simpa [cl] using hq
        · exact g3 e' he'
      · exact .inr g
    · rw [decide_eq_false hq]
      have hne : u ≠ v := by rintro rfl; exact hq rfl
      have hlow : imin (out.getD u 0) (out.getD v 0) = if out.getD v 0 < out.getD u 0 then out.getD v 0 else out.getD u 0 := rfl
      generalize hlw : imin (out.getD u 0) (out.getD v 0) = low at *
      have hvl2 : v < (out.set u low).length := by simp; exact hvl
      simp only [idx_l (0 : Int) hvl2]
      have cu := h.2 u hu
      have cv := h.2 v hv
      have hset : ∀ k, k < N → ((out.set u low).set v low).getD k 0 = if k = u ∨ k = v then low else out.getD k 0 := by
        intro k hk
        have hkl : k < out.length := by rw [h.1]; exact hk
        by_cases k2 : k = v
        · subst k2
          simp [List.getD_eq_getElem?_getD, hkl]
        · by_cases k1 : k = u
          · subst k1
            rw [if_pos (.inl rfl), List.getD_eq_getElem?_getD, List.getElem?_set_ne (Ne.symm k2)]
            simp [hkl]
          · rw [if_neg (by omega), List.getD_eq_getElem?_getD, List.getElem?_set_ne (Ne.symm k2), List.getElem?_set_ne (Ne.symm k1), List.getD_eq_getElem?_getD]
      have hlc : 0 ≤ low ∧ low ≤ (u : Int) ∧ low ≤ (v : Int) ∧ Con l (u : Int) low := by
        rw [hlow]
        split
        · exact ⟨cv.1, by omega, cv.2.1, hcon.trans cv.2.2⟩
        · exact ⟨cu.1, cu.2.1, by omega, cu.2.2⟩
      have hI : CI N l ((out.set u low).set v low) := by
        refine ⟨by simp [h.1], fun k hk => ?_⟩
        rw [hset k hk]
        split
        · rename_i hkk
          rcases hkk with rfl | rfl
          · exact ⟨hlc.1, hlc.2.1, hlc.2.2.2⟩
          · exact ⟨hlc.1, hlc.2.2.1, hcon.symm.trans hlc.2.2.2⟩
        · exact h.2 k hk
      have hsum : ((out.set u low).set v low).sum < out.sum := by
        rw [sum_set _ _ _ hvl2, sum_set _ _ _ hul]
        have : (out.set u low).getD v 0 = out.getD v 0 := by
          rw [List.getD_eq_getElem?_getD, List.getElem?_set_ne hne, ← List.getD_eq_getElem?_getD]
        rw [this, hlow]
        split <;> omega
      obtain ⟨out', more', e1, e2, e3⟩ := ih (i + 1) cnt _ true (by omega) hI (by omega)
      refine ⟨out', more', e1, e2, .inr ?_⟩
      rcases e3 with ⟨g1, g2, _⟩ | ⟨g1, g2⟩
      · exact ⟨g1, by rw [g2]; exact hsum⟩
      · exact ⟨g1, by omega⟩
theorem sweeps (N : Nat) (hN : N ≤ 64) (l : List Edge) (hs : l.length < 1073741824) (ha : ∀ e ∈ l, In (N : Int) e.1 ∧ In (N : Int) e.2.1) :
    ∀ (m cnt : Nat) (out : List Int), out.sum.toNat = m → CI N l out → m + 1 < cnt →
    ∃ out', iterO classes19_s1 cnt ((N : Int), l, out, true, ()) = some (.inl (out', ())) ∧ CI N l out' ∧ ∀ e ∈ l, cl out' e.1 = cl out' e.2.1 := by
  have hmany : 9223372036854775808 < many := by simp only [many]; omega
  intro m
  induction m using Nat.strongRecOn with
  | _ m ih =>
  intro cnt out hm h hc
  obtain ⟨cnt, rfl⟩ : ∃ c, cnt = c + 1 := ⟨cnt - 1, by omega⟩
  rw [iterO, classes19_s1]
  obtain ⟨out', more', e1, e2, e3⟩ := sweep N l hs ha l.length 0 many out false (by omega) h (by omega)
  have e1' : iterO classes19_s2 many ((N : Int), l, out, false, (0 : Int), ()) = _ := e1
  simp only [iterL_eq, e1']
  rcases e3 with ⟨g1, g2, g3⟩ | ⟨g1, g2⟩
  · subst g1 g2
    obtain ⟨cnt, rfl⟩ : ∃ c, cnt = c + 1 := ⟨cnt - 1, by omega⟩
    rw [iterO, classes19_s1]
    exact ⟨_, rfl, e2, by simpa using g3⟩
  · subst g1
    have b1 := sum_bounds h hN
    have b2 := sum_bounds e2 hN
    exact ih out'.sum.toNat (by omega) cnt out' rfl e2 (by omega)
structure ClOK (n : Int) (l : List Edge) (out : List Int) : Prop where
  len : (out.length : Int) = n
  same : ∀ a b, In n a → In n b → (cl out a = cl out b ↔ Con l a b)
  isin : ∀ a, In n a → In n (cl out a)
  con : ∀ a, In n a → Con l a (cl out a)
  least : ∀ a b, In n a → In n b → Con l a b → cl out a ≤ b
theorem classes19_val (n : Int) (l : List Edge) (hn : Sz n) (hs : l.length < 1073741824) (ha : ∀ e ∈ l, In n e.1 ∧ In n e.2.1) : ∃ out, classes19 (n, l, ()) = some (out, ()) ∧ ClOK n l out := by
  have hmany : 9223372036854775808 < many := by simp only [many]; omega
  obtain ⟨s1, s2⟩ := hn
  obtain ⟨N, rfl⟩ := Int.eq_ofNat_of_zero_le (show 0 ≤ n by omega)
  rw [classes19_eq, classes19_d]
  have key : ∀ (m k cnt : Nat), k + m = N → m < cnt → iterO classes19_s0 cnt ((N : Int), l, (List.range k).map (fun (k : Nat) => (k : Int)), (k : Int), ()) = some (.inl ((N : Int), l, (List.range N).map (fun (k : Nat) => (k : Int)), ())) := by
    intro m
    induction m with
    | zero =>
      intro k cnt hk hc
      obtain ⟨cnt, rfl⟩ : ∃ c, cnt = c + 1 := ⟨cnt - 1, by omega⟩
      have : k = N := by omega
      subst this
      rw [iterO, classes19_s0, ilt_nat, decide_eq_false (by omega)]
    | succ m ih =>
      intro k cnt hk hc
      obtain ⟨cnt, rfl⟩ : ∃ c, cnt = c + 1 := ⟨cnt - 1, by omega⟩
      have hih := ih (k + 1) cnt (by omega) (by omega)
      rw [List.range_succ, List.map_append] at hih
      rw [iterO, classes19_s0, ilt_nat, decide_eq_true (by omega)]
      simp only []
      rw [wrap_add1 (by omega), fits_l (by simp only [dlen_l, List.length_cons, List.length_nil, List.length_map, List.length_range]; omega)]
      exact hih
  have e0 := key N 0 many (by omega) (by omega)
  have e0' : iterO classes19_s0 many ((N : Int), l, [], (0 : Int), ()) = _ := e0
  have h0 : CI N l ((List.range N).map (fun (k : Nat) => (k : Int))) := by
    refine ⟨by simp, fun k hk => ?_⟩
    have : ((List.range N).map (fun (k : Nat) => (k : Int))).getD k 0 = (k : Int) := by simp [List.getD_eq_getElem?_getD, hk]
    rw [this]
    exact ⟨by omega, by omega, .refl _⟩
  have hb := sum_bounds h0 (by omega)
  obtain ⟨out, e1, e2, e3⟩ := sweeps N (by omega) l hs ha _ many _ rfl h0 (by omega)
  simp only [iterL_eq, e0', e1]
  have fact : ∀ a, In (N : Int) a → 0 ≤ cl out a ∧ cl out a ≤ a ∧ Con l a (cl out a) := by
    intro a hia
    obtain ⟨k, rfl⟩ := Int.eq_ofNat_of_zero_le hia.2.2.1
    have := e2.2 k (by have := hia.2.2.2; omega)
    simpa [cl] using this
  refine ⟨out, rfl, by rw [e2.1], fun a b ia ib => ⟨fun h => ?_, fun h => h.const e3⟩, fun a ia => ?_, fun a ia => (fact a ia).2.2, fun a b ia ib h => ?_⟩
  · have h1 := (fact a ia).2.2
    have h2 := (fact b ib).2.2
    rw [← h] at h2
    exact h1.trans h2.symm
  · have := fact a ia
    have h3 := ia.2.2.2
    exact ⟨s1, s2, by omega, by omega⟩
  · have h1 : cl out a = cl out b := h.const e3
    have := (fact b ib).2.1
    omega
end Go.Pev.Pl
end
section
namespace Go.Pev.Pl
set_option linter.unusedSimpArgs false
structure UF (N : Nat) (s : List Int) (c : Int → Int) : Prop where
  len : s.length = N
  lo : ∀ k, k < N → 0 ≤ s.getD k 0 ∧ s.getD k 0 ≤ (k : Int)
  par : ∀ k, k < N → c (s.getD k 0) = c (k : Int)
  root : ∀ k, k < N → s.getD k 0 = (k : Int) → c (k : Int) = (k : Int)
  le : ∀ k, k < N → 0 ≤ c (k : Int) ∧ c (k : Int) ≤ (k : Int)
theorem set_getD {s : List Int} {k : Nat} (x : Int) (h : k < s.length) (j : Nat) : (s.set k x).getD j 0 = if j = k then x else s.getD j 0 := by
  simp only [List.getD_eq_getElem?_getD]
  by_cases hj : j = k
  · subst hj
    rw [List.getElem?_set_self h, if_pos rfl]; rfl
  · rw [List.getElem?_set_ne (Ne.symm hj), if_neg hj]
theorem UF.idem {N : Nat} {s : List Int} {c : Int → Int} (h : UF N s c) : ∀ (m k : Nat), k ≤ m → k < N → c (c (k : Int)) = c (k : Int) := by
  intro m
  induction m with
  | zero =>
    intro k hk hN
    have := h.le k hN
    have e : c (k : Int) = (k : Int) := by omega
    rw [e, e]
  | succ m ih =>
    intro k hk hN
    have h1 := h.lo k hN
    by_cases hr : s.getD k 0 = (k : Int)
    · have e := h.root k hN hr
      rw [e, e]
    · obtain ⟨j, hj⟩ := Int.eq_ofNat_of_zero_le h1.1
      have hp := h.par k hN
      rw [hj] at hp
      rw [← hp]
      exact ih j (by omega) (by omega)
theorem UF.top {N : Nat} {s : List Int} {c : Int → Int} (h : UF N s c) {k : Nat} (hk : k < N) : s.getD (c (k : Int)).toNat 0 = c (k : Int) := by
  have h1 := h.le k hk
  obtain ⟨j, hj⟩ := Int.eq_ofNat_of_zero_le h1.1
  have hi := h.idem k k (Nat.le_refl _) hk
  rw [hj] at hi ⊢
  have hjN : j < N := by omega
  have h2 := h.lo j hjN
  have hp := h.par j hjN
  obtain ⟨i, hi'⟩ := Int.eq_ofNat_of_zero_le h2.1
  rw [hi'] at hp
  have h3 := h.le i (by omega)
  show s.getD j 0 = _
  omega
theorem sleast_val {N : Nat} {c : Int → Int} (hN : N ≤ 64) : ∀ {s : List Int} (_ : UF N s c) {v : Nat} (_ : v < N), ∃ s', sleast (s, (v : Int), ()) = some (s', c (v : Int), ()) ∧ UF N s' c ∧ ∀ j, j < N → s.getD j 0 = c (j : Int) → s'.getD j 0 = c (j : Int) := by
  intro s hs v hv
  rw [sleast_eq, sleast_d]
  obtain ⟨r, e, h⟩ := iterL_rule (step := sleast_s0)
    (fun st => ∃ (s' : List Int) (w : Nat), st = (s', (w : Int), ()) ∧ w < N ∧ UF N s' c ∧ c (w : Int) = c (v : Int) ∧ ∀ j, j < N → s.getD j 0 = c (j : Int) → s'.getD j 0 = c (j : Int))
    (fun r => ∃ s', r = .inl (s', c (v : Int), ()) ∧ UF N s' c ∧ ∀ j, j < N → s.getD j 0 = c (j : Int) → s'.getD j 0 = c (j : Int)) (fun st => st.2.1.toNat)
    (fun st hst => by
      obtain ⟨s', w, rfl, hw, hu, hc, hk⟩ := hst
      have hl := hu.len
      have h1 := hu.lo w hw
      rw [sleast_s0]
      simp only [idx_l 0 (show w < s'.length by omega), dget_l, ieq_dec]
      by_cases hr : s'.getD w 0 = (w : Int)
      · right
        rw [decide_eq_true hr]
        refine ⟨_, rfl, s', ?_, hu, hk⟩
        rw [← hc, hu.root w hw hr]
      · left
        rw [decide_eq_false hr]
        obtain ⟨p, hp⟩ := Int.eq_ofNat_of_zero_le h1.1
        have hpN : p < N := by omega
        have h2 := hu.lo p hpN
        obtain ⟨q, hq⟩ := Int.eq_ofNat_of_zero_le h2.1
        have hqN : q < N := by omega
        simp only [Bool.not_false, hp, idx_l 0 (show p < s'.length by omega), dget_l, dset_l, hq]
        have hlen : (s'.set w (q : Int)).length = N := by rw [List.length_set]; exact hl
        have hset := fun j => set_getD (q : Int) (show w < s'.length by omega) j
        simp only [idx_l 0 (show w < (s'.set w (q : Int)).length by omega), hset, if_true]
        refine ⟨_, rfl, ⟨_, q, rfl, hqN, ?_, ?_, ?_⟩, ?_⟩
        · refine ⟨hlen, fun k hk => ?_, fun k hk => ?_, fun k hk hkk => ?_, hu.le⟩
          · rw [hset]
            by_cases e : k = w
            · rw [if_pos e]; omega
            · rw [if_neg e]; exact hu.lo k hk
          · rw [hset]
            by_cases e : k = w
            · subst e
              rw [if_pos rfl, ← hq, hu.par p hpN, ← hp, hu.par k hw]
            · rw [if_neg e]; exact hu.par k hk
          · rw [hset] at hkk
            by_cases e : k = w
            · subst e; rw [if_pos rfl] at hkk; omega
            · rw [if_neg e] at hkk; exact hu.root k hk hkk
        · rw [← hc, ← hq, hu.par p hpN, ← hp, hu.par w hw]
        · intro j hj hjc
          rw [hset]
          by_cases e : j = w
          · subst e
            rw [if_pos rfl]
            have := hk j hj hjc
            have ht := hu.top hj
            rw [← this, hp, Int.toNat_natCast] at ht
            rw [← hq, ht, ← hp, this]
          · rw [if_neg e]; exact hk j hj hjc
        · show (q : Int).toNat < (w : Int).toNat
          omega)
    (s, (v : Int), ()) ⟨s, v, rfl, hv, hs, rfl, fun _ _ h => h⟩ (by simp only [many]; omega)
  obtain ⟨s', rfl, h2, h3⟩ := h
  rw [e]
  exact ⟨s', rfl, h2, h3⟩
theorem imin_eq (a b : Int) : imin a b = min a b := by unfold imin; split <;> omega
theorem imax_eq (a b : Int) : imax a b = max a b := by unfold imax; split <;> omega
theorem range_get' {N i x : Nat} (h : (List.range N)[i]? = some x) : x = i := by
  rw [List.getElem?_eq_some_iff] at h
  obtain ⟨h1, h2⟩ := h
  simpa using h2.symm
def relab (c : Int → Int) (u v : Int) : Int → Int := fun x => if c x = max (c u) (c v) then min (c u) (c v) else c x
theorem sjoin_val {N : Nat} (hN : N ≤ 64) {c : Int → Int} {s : List Int} (hs : UF N s c) {u v : Nat} (hu : u < N) (hv : v < N) : ∃ s' b, sjoin (s, (u : Int), (v : Int), ()) = some (s', b, ()) ∧ UF N s' (relab c u v) := by
  obtain ⟨s1, e1, g1, _⟩ := sleast_val hN hs hu
  obtain ⟨s2, e2, g2, _⟩ := sleast_val hN g1 hv
  rw [sjoin_eq, sjoin_d]
  simp only [e1, e2, imin_eq, imax_eq]
  have lu := g2.le u hu
  have lv := g2.le v hv
  have iu := g2.idem u u (Nat.le_refl _) hu
  have iv := g2.idem v v (Nat.le_refl _) hv
  obtain ⟨M, hM⟩ := Int.eq_ofNat_of_zero_le (show 0 ≤ max (c (u : Int)) (c (v : Int)) by omega)
  obtain ⟨m, hm⟩ := Int.eq_ofNat_of_zero_le (show 0 ≤ min (c (u : Int)) (c (v : Int)) by omega)
  have hMN : M < N := by omega
  have hmN : m < N := by omega
  have hl := g2.len
  have cM : c (M : Int) = (M : Int) := by
    rw [← hM]
    rcases Int.le_total (c (u : Int)) (c (v : Int)) with h | h
    · rw [Int.max_eq_right h]; exact iv
    · rw [Int.max_eq_left h]; exact iu
  have cm : c (m : Int) = (m : Int) := by
    rw [← hm]
    rcases Int.le_total (c (u : Int)) (c (v : Int)) with h | h
    · rw [Int.min_eq_left h]; exact iu
    · rw [Int.min_eq_right h]; exact iv
  rw [hM, hm]
  simp only [idx_l 0 (show M < s2.length by omega), dset_l]
  refine ⟨_, _, rfl, ?_⟩
  have hset := fun j => set_getD (m : Int) (show M < s2.length by omega) j
  have hre : ∀ x, relab c u v x = if c x = (M : Int) then (m : Int) else c x := by
    intro x; unfold relab; rw [hM, hm]
  refine ⟨by rw [List.length_set]; exact hl, fun k hk => ?_, fun k hk => ?_, fun k hk hkk => ?_, fun k hk => ?_⟩
  · rw [hset]
    by_cases e : k = M
    · rw [if_pos e]; omega
    · rw [if_neg e]; exact g2.lo k hk
  · rw [hset, hre, hre]
    by_cases e : k = M
    · subst e
      rw [if_pos rfl, if_pos cM, cm]
      split <;> rfl
    · rw [if_neg e, g2.par k hk]
  · rw [hset] at hkk
    rw [hre]
    by_cases e : k = M
    · subst e
      rw [if_pos rfl] at hkk
      rw [if_pos cM]; exact hkk
    · rw [if_neg e] at hkk
      have hr := g2.root k hk hkk
      rw [hr, if_neg (by omega)]
  · rw [hre]
    have := g2.le k hk
    split <;> omega
theorem salone_val (N : Nat) (h : N ≤ 64) : salone ((N : Int), ()) = some ((List.range N).map fun (k : Nat) => (k : Int), ()) := by
  rw [salone_eq, salone_d]
  have f1 : fitsI (N : Int) = true := (fitsI_iff _).2 (by omega)
  rw [f1, ile_nat, decide_eq_true (Nat.le_refl _)]
  simp only [Bool.and_self]
  have hz : drep (dnat (N : Int)) (0 : Int) = List.replicate N 0 := by simp [drep, dnat]
  rw [hz]
  have e := walkL (step := salone_s0) (fun i (a : List Int) => (a, (N : Int), (i : Int), ())) (List.range N) (fun (k : Nat) a => .inl (a.set k (k : Int))) (fun a => .inl (a, ())) (fun i a => a.length = N) (by simp; omega)
    (fun i x a hi hx ha => by
      refine ⟨fun m' h' => ?_, fun r h' => by cases h'⟩
      cases h'
      have := range_get' hx
      subst this
      rw [List.length_range] at hi
      rw [salone_s0, ilt_nat, decide_eq_true hi]
      simp only [idx_l 0 (show x < a.length by omega), dset_l]
      rw [wrap_add1 (by omega)]
      exact ⟨rfl, by rw [List.length_set]; exact ha⟩)
    (fun a _ => by rw [salone_s0, List.length_range, ilt_nat, decide_eq_false (by omega)]) (List.replicate N 0) (by simp)
  have e' : iterL salone_s0 many (List.replicate N 0, (N : Int), (0 : Int), ()) = _ := e
  rw [show dlen (List.replicate N (0 : Int)) = (N : Int) by simp [dlen]]
  rw [e', walk_fold]
  have key : ∀ M, M ≤ N → (List.range M).foldl (fun (a : List Int) (k : Nat) => a.set k (k : Int)) (List.replicate N 0) = ((List.range M).map fun (k : Nat) => (k : Int)) ++ List.replicate (N - M) 0 := by
    intro M
    induction M with
    | zero => intro _; simp
    | succ M ih =>
      intro hM
      rw [List.range_succ, List.foldl_append, ih (by omega)]
      simp only [List.foldl_cons, List.foldl_nil, List.map_append, List.map_cons, List.map_nil]
      rw [List.set_append_right _ _ (by simp)]
      obtain ⟨d, hd⟩ : ∃ d, N - M = d + 1 := ⟨N - M - 1, by omega⟩
      rw [hd, show N - (M + 1) = d by omega]
      simp [List.replicate_succ]
  rw [key N (Nat.le_refl _)]
  simp
theorem UF_alone (N : Nat) : UF N ((List.range N).map fun (k : Nat) => (k : Int)) (fun x => x) := by
  have hg : ∀ k, k < N → ((List.range N).map fun (k : Nat) => (k : Int)).getD k 0 = (k : Int) := by
    intro k hk
    simp [List.getD_eq_getElem?_getD, hk]
  exact ⟨by simp, fun k hk => by rw [hg k hk]; omega, fun k hk => hg k hk, fun k hk _ => rfl, fun k hk => by omega⟩
def Tells (N : Nat) (c : Int → Int) (l : List Edge) : Prop := ∀ a b, In (N : Int) a → In (N : Int) b → (c a = c b ↔ Con l a b)
theorem Tells.snoc {N : Nat} {c : Int → Int} {l : List Edge} {e : Edge} (h : Tells N c l) (h1 : In (N : Int) e.1) (h2 : In (N : Int) e.2.1) : Tells N (relab c e.1 e.2.1) (l ++ [e]) := by
  intro a b ia ib
  rw [Con.snoc, ← h a b ia ib, ← h a _ ia h1, ← h _ b h2 ib, ← h a _ ia h2, ← h _ b h1 ib]
  unfold relab
  generalize c a = x
  generalize c b = y
  generalize c e.1 = u
  generalize c e.2.1 = v
  split <;> split <;> omega
theorem eachJoin_val {N : Nat} (h1 : 1 ≤ N) (hN : N ≤ 64) (l : List Edge) (hs : l.length < 1073741824) (ha : ∀ e ∈ l, In (N : Int) e.1 ∧ In (N : Int) e.2.1) :
    ∃ s bs c, eachJoin (l, (List.range N).map (fun (k : Nat) => (k : Int)), ()) = some (s, bs, ()) ∧ UF N s c ∧ Tells N c l := by
  rw [eachJoin_eq, eachJoin_d]
  have key : ∀ (m i n : Nat) (s : List Int) (bs : List Bool) (c : Int → Int), l.length - i = m → i ≤ l.length → m < n → bs.length = i → UF N s c → Tells N c (l.take i) →
      ∃ s' bs' c', iterO eachJoin_s0 n (s, bs, l, dlen l, (i : Int), ()) = some (.inl (s', bs', ())) ∧ UF N s' c' ∧ Tells N c' l := by
    intro m
    induction m with
    | zero =>
      intro i n s bs c hm hi hn hb hu ht
      obtain ⟨n, rfl⟩ : ∃ k, n = k + 1 := ⟨n - 1, by omega⟩
      have e : i = l.length := by omega
      subst e
      rw [iterO, eachJoin_s0, dlen_l, ilt_nat, decide_eq_false (by omega)]
      rw [List.take_length] at ht
      exact ⟨s, bs, c, rfl, hu, ht⟩
    | succ m ih =>
      intro i n s bs c hm hi hn hb hu ht
      obtain ⟨n, rfl⟩ : ∃ k, n = k + 1 := ⟨n - 1, by omega⟩
      have hi' : i < l.length := by omega
      have hx : l[i]? = some l[i] := by simp [hi']
      obtain ⟨i1, i2⟩ := ha l[i] (List.getElem_mem hi')
      obtain ⟨_, _, a1, a2⟩ := i1
      obtain ⟨_, _, b1, b2⟩ := i2
      obtain ⟨u, hu'⟩ := Int.eq_ofNat_of_zero_le a1
      obtain ⟨v, hv'⟩ := Int.eq_ofNat_of_zero_le b1
      obtain ⟨s', b, e, g⟩ := sjoin_val hN hu (u := u) (v := v) (by omega) (by omega)
      rw [iterO, eachJoin_s0, dlen_l, ilt_nat, decide_eq_true hi']
      simp only [idx_some hx, hu', hv', e, dlen_l]
      rw [fits_l (by rw [hb]; simp; omega), wrap_add1 (by omega)]
      refine ih (i + 1) n s' _ _ (by omega) (by omega) (by omega) (by rw [dapp_l, List.length_append, hb]; rfl) g ?_
      rw [List.take_add_one, hx]
      have := ht.snoc (e := l[i]) (ha l[i] (List.getElem_mem hi')).1 (ha l[i] (List.getElem_mem hi')).2
      rw [hu', hv'] at this
      exact this
  obtain ⟨s, bs, c, e, hu, ht⟩ := key l.length 0 many _ [] _ rfl (Nat.zero_le _) (by simp only [many]; omega) rfl (UF_alone N) (by
    intro a b _ _
    rw [List.take_zero]
    exact ⟨fun h => by have h : a = b := h; rw [h]; exact .refl _, fun h => h.nil⟩)
  have e' : iterL eachJoin_s0 many ((List.range N).map (fun (k : Nat) => (k : Int)), [], l, dlen l, (0 : Int), ()) = _ := (iterL_eq _ _ _).trans e
  rw [e']
  exact ⟨s, bs, c, rfl, hu, ht⟩
theorem sasked_val (n : Int) (l : List Edge) (hn : Sz n) (hs : l.length < 1073741824) (ha : ∀ e ∈ l, In n e.1 ∧ In n e.2.1) : sasked (n, l, ()) = some (0, ()) := by
  rw [sasked_eq, sasked_d]
  obtain ⟨h1, h2⟩ := hn
  rw [ilt_eq, decide_eq_false (by omega), ilt_eq, decide_eq_false (by omega)]
  have e := findL (step := sasked_s0) (fun i => (n, l, dlen l, (i : Int), ())) l (fun _ => false) (fun _ => .inl (10, ())) (.inr (.inl ())) (by omega)
    (fun i x hi hx => by
      obtain ⟨⟨_, _, a1, a2⟩, ⟨_, _, b1, b2⟩⟩ := ha x (List.mem_of_getElem? hx)
      rw [sasked_s0, dlen_l, ilt_nat, decide_eq_true hi]
      simp only [idx_some hx, imin_eq, imax_eq]
      rw [ilt_eq, decide_eq_false (by omega), ile_eq, decide_eq_false (by omega), wrap_add1 (by omega)]
      rfl)
    (by rw [sasked_s0, dlen_l, ilt_nat, decide_eq_false (by omega)])
  have e' : iterL sasked_s0 many (n, l, dlen l, (0 : Int), ()) = _ := e
  rw [e']
  simp
theorem sclasses_val (n : Int) (l : List Edge) (hn : Sz n) (hs : l.length < 1073741824) (ha : ∀ e ∈ l, In n e.1 ∧ In n e.2.1) : ∃ out, sclasses (n, l, ()) = some (out, 0, ()) ∧ ClOK n l out := by
  have hn' := hn
  obtain ⟨h1, h2⟩ := hn
  obtain ⟨N, rfl⟩ := Int.eq_ofNat_of_zero_le (show 0 ≤ n by omega)
  rw [sclasses_eq, sclasses_d]
  simp only [sasked_val _ l hn' hs ha, ieq_dec]
  obtain ⟨s, bs, c, e, hu, ht⟩ := eachJoin_val (N := N) (by omega) (by omega) l hs ha
  have ej : sjoins ((List.range N).map (fun (k : Nat) => (k : Int)), l, ()) = some (s, bs, ()) := by
    rw [sjoins_eq, sjoins_d]; simp only [e]
  simp only [decide_true, Bool.not_true, salone_val N (by omega), ej]
  have key : ∀ (m i k : Nat) (s : List Int), N - i = m → i ≤ N → m < k → UF N s c → (∀ j, j < i → s.getD j 0 = c (j : Int)) →
      ∃ s', iterO sclasses_s0 k (s, (N : Int), (i : Int), ()) = some (.inl (s', ())) ∧ UF N s' c ∧ ∀ j, j < N → s'.getD j 0 = c (j : Int) := by
    intro m
    induction m with
    | zero =>
      intro i k s hm hi hk hu hj
      obtain ⟨k, rfl⟩ : ∃ q, k = q + 1 := ⟨k - 1, by omega⟩
      have e : i = N := by omega
      subst e
      rw [iterO, sclasses_s0, ilt_nat, decide_eq_false (by omega)]
      exact ⟨s, rfl, hu, hj⟩
    | succ m ih =>
      intro i k s hm hi hk hu hj
      obtain ⟨k, rfl⟩ : ∃ q, k = q + 1 := ⟨k - 1, by omega⟩
      have hi' : i < N := by omega
      obtain ⟨s', e, g, hkeep⟩ := sleast_val (by omega) hu hi'
      have hl := g.len
      rw [iterO, sclasses_s0, ilt_nat, decide_eq_true hi']
      simp only [e, idx_l 0 (show i < s'.length by omega), dset_l]
      rw [wrap_add1 (by omega)]
      have hset := fun j => set_getD (c (i : Int)) (show i < s'.length by omega) j
      have ci := g.idem i i (Nat.le_refl _) hi'
      refine ih (i + 1) k _ (by omega) (by omega) (by omega) ⟨by rw [List.length_set]; exact hl, fun q hq => ?_, fun q hq => ?_, fun q hq hqq => ?_, g.le⟩ fun j hj' => ?_
      · rw [hset]
        by_cases e : q = i
        · subst e; rw [if_pos rfl]; exact g.le q hq
        · rw [if_neg e]; exact g.lo q hq
      · rw [hset]
        by_cases e : q = i
        · subst e; rw [if_pos rfl]; exact ci
        · rw [if_neg e]; exact g.par q hq
      · rw [hset] at hqq
        by_cases e : q = i
        · subst e; rw [if_pos rfl] at hqq; exact hqq
        · rw [if_neg e] at hqq; exact g.root q hq hqq
      · rw [hset]
        by_cases e : j = i
        · subst e; rw [if_pos rfl]
        · rw [if_neg e]; exact hkeep j (by omega) (hj j (by omega))
  obtain ⟨o, e, g, ho⟩ := key N 0 many s rfl (Nat.zero_le _) (by simp only [many]; omega) hu (fun j hj => by omega)
  have e' : iterL sclasses_s0 many (s, (N : Int), (0 : Int), ()) = _ := (iterL_eq _ _ _).trans e
  rw [dlen_l, hu.len, e']
  refine ⟨o, rfl, ?_⟩
  have hcl : ∀ a, In (N : Int) a → cl o a = c a ∧ (0 ≤ c a ∧ c a ≤ a) ∧ c (c a) = c a := by
    rintro a ⟨_, _, a1, a2⟩
    obtain ⟨k, rfl⟩ := Int.eq_ofNat_of_zero_le a1
    refine ⟨?_, g.le k (by omega), g.idem k k (Nat.le_refl _) (by omega)⟩
    unfold cl
    rw [Int.toNat_natCast]
    exact ho k (by omega)
  have isin : ∀ a, In (N : Int) a → In (N : Int) (c a) := by
    intro a ia
    obtain ⟨_, h, _⟩ := hcl a ia
    obtain ⟨q1, q2, a1, a2⟩ := ia
    exact ⟨q1, q2, by omega, by omega⟩
  refine ⟨by rw [g.len], fun a b ia ib => ?_, fun a ia => ?_, fun a ia => ?_, fun a b ia ib hc => ?_⟩
  · rw [(hcl a ia).1, (hcl b ib).1]; exact ht a b ia ib
  · rw [(hcl a ia).1]; exact isin a ia
  · rw [(hcl a ia).1]
    exact (ht a (c a) ia (isin a ia)).1 (hcl a ia).2.2.symm
  · rw [(hcl a ia).1, (ht a b ia ib).2 hc]
    exact (hcl b ib).2.1.2
end Go.Pev.Pl
end
section
namespace Go.Pev.Pl
set_option linter.unusedSimpArgs false
def sh (n : Int) : Prop := 0 ≤ n ∧ n ≤ 65535
instance (n : Int) : Decidable (sh n) := inferInstanceAs (Decidable (_ ∧ _))
def tw (n : Int) : List Int := [n / 256, n % 256]
theorem foldl_app {α β : Type} (g : β → α) : ∀ (xs : List β) (a : List α), xs.foldl (fun a x => a ++ [g x]) a = a ++ xs.map g := by
  intro xs
  induction xs with
  | nil => intro a; simp
  | cons x xs ih => intro a; rw [List.foldl_cons, ih]; simp
end Go.Pev.Pl
end
section
namespace Go.Pev.Pl
set_option linter.unusedSimpArgs false
abbrev Res := Int × Int × List Int × Unit
def val (r : Res) : Prop := (0 ≤ r.1 ∧ r.1 ≤ 255) ∧ sh r.2.1 ∧ sh (r.2.2.1.length : Int) ∧ ∀ x ∈ r.2.2.1, sh x
instance (r : Res) : Decidable (val r) := inferInstanceAs (Decidable (_ ∧ _ ∧ _ ∧ _))
def enc (r : Res) : List Int := r.1 :: (tw r.2.1 ++ (tw (r.2.2.1.length : Int) ++ r.2.2.1.flatMap tw))
end Go.Pev.Pl
end
section
namespace Go.Pev.Pl
set_option linter.unusedSimpArgs false
set_option maxRecDepth 100000
theorem alive27_true : alive27 () = some (true, ()) := by
  rw [show alive27 () = @alive27 idI () from congrArg (fun i => @alive27 i ()) lockI_eq]
  kernel_rfl
theorem ieq_self' (a : Int) : ieq a a = true := by rw [ieq_eq]; simp
end Go.Pev.Pl
end
section
namespace Go.Pev.Pl
open Go.RowKit Tok
section
variable {n : Int} {rings : List (List Int)}
theorem hd_class {l : List Edge} {out : List Int} (h : FC n rings l) (hc : ClOK n l out) {A : List Int} {u : Int} (hA : A ∈ rings) (iu : In n u) (hu : u ∈ A) : hd A = cl out u := by
  have gA := h.fr.rg A hA
  have ih := RG_head gA
  have hh := hd_mem gA.2.1
  have h1 : Con l u (hd A) := (h.sam u (hd A) iu ih).1 ⟨A, hA, hu, hh⟩
  have h2 := hc.least u (hd A) iu ih h1
  have h3 := hc.isin u iu
  obtain ⟨K, hK, k1, k2⟩ := (h.sam u _ iu h3).2 (hc.con u iu)
  have := h.fr.one hA hK iu.2.2.2 hu k1
  subst this
  have h4 := (minL_spec gA.2.1).2 _ k2
  rw [gA.2.2.1] at h4
  have : hd A = A.headD 0 := rfl
  omega
end
end Go.Pev.Pl
end
section
namespace Go.Pev.Pl
set_option linter.unusedSimpArgs false
set_option maxRecDepth 100000
abbrev Tie := Int × Int × Int × Bool × Unit
abbrev zT : Tie := (0, 0, 0, false, ())
def topV (n : Nat) : Int := ((@top21 idI ((n : Int), ())).getD (0, ())).1
theorem tops : ((List.range 65).all fun k => decide (@top21 idI ((k : Int), ()) = some (topV k, ()))) = true := by kernel_rfl
theorem topsL : ((List.range 65).all fun k => decide (@ltop idI ((k : Int), ()) = some (topV k, ()))) = true := by kernel_rfl
theorem top21_val (n : Nat) (h : n ≤ 64) : top21 ((n : Int), ()) = some (topV n, ()) := by
  rw [show top21 ((n : Int), ()) = @top21 idI ((n : Int), ()) from congrArg (fun i => @top21 i ((n : Int), ())) lockI_eq]
  exact of_decide_eq_true (List.all_eq_true.1 tops n (by simp; omega))
theorem ltop_val (n : Nat) (h : n ≤ 64) : ltop ((n : Int), ()) = some (topV n, ()) := by
  rw [show ltop ((n : Int), ()) = @ltop idI ((n : Int), ()) from congrArg (fun i => @ltop i ((n : Int), ())) lockI_eq]
  exact of_decide_eq_true (List.all_eq_true.1 topsL n (by simp; omega))
def cmpV (a b : Int) : Int := if a < b then -1 else if b < a then 1 else 0
theorem compareI_val (a b : Int) : compareI (a, b, ()) = some (cmpV a b, ()) := by
  rw [compareI_eq, compareI_d]
  simp only [nanI_eq, nanI_d, ieq_self', Bool.not_true]
  unfold cmpV
  rw [ilt_eq, ilt_eq]
  by_cases h : a < b
  · rw [decide_eq_true h, if_pos h]
  · rw [decide_eq_false h, if_neg h]
    by_cases h' : b < a
    · rw [decide_eq_true h', if_pos h']
    · rw [decide_eq_false h', if_neg h']
theorem orI_val (a b : Int) : orI ([a, b], ()) = some (if a = 0 then b else a, ()) := by
  rw [orI_eq, orI_d]
  have e := findL (step := orI_s0) (fun i => (0, [a, b], dlen [a, b], (i : Int), ())) [a, b] (fun x => !decide (x = 0)) (fun i => .inl ([a, b].getD i 0, ())) (.inr (.inl (0, ()))) (by simp)
    (fun i x hi hx => by
      rw [orI_s0, dlen_l, ilt_nat, decide_eq_true hi]
      simp only [idx_some hx, ieq_dec]
      have hi2 : i < 2 := hi
      rw [wrap_add1 (by omega)]
      have hg : [a, b].getD i 0 = x := by rw [List.getD_eq_getElem?_getD, hx]; rfl
      rw [hg]
      by_cases h : x = 0
      · simp [h]
      · simp [h])
    (by rw [orI_s0, dlen_l, ilt_nat, decide_eq_false (by omega)])
  have e' : iterL orI_s0 many (0, [a, b], dlen [a, b], (0 : Int), ()) = _ := e
  rw [e']
  by_cases h : a = 0
  · by_cases h' : b = 0
    · simp [h, h']
    · simp [h, h', List.findIdx_cons]
  · simp [h, List.findIdx_cons]
def ahead (p x : Tie) : Prop := p.1 < x.1 ∨ (p.1 = x.1 ∧ p.2.1 < x.2.1)
instance (p x : Tie) : Decidable (ahead p x) := inferInstanceAs (Decidable (_ ∨ _))
theorem lcompare_val (p x : Tie) : ∃ y, lcompare (p, x, ()) = some (y, ()) ∧ ile 0 y = !decide (ahead p x) := by
  rw [lcompare_eq, lcompare_d]
  simp only [compareI_val, orI_val]
  refine ⟨_, rfl, ?_⟩
  rw [ile_eq]
  by_cases h : ahead p x
  · rw [decide_eq_true h]
    unfold ahead at h
    unfold cmpV
    rw [decide_eq_false]; · rfl
    split <;> split <;> (try split) <;> omega
  · rw [decide_eq_false h]
    unfold ahead at h
    unfold cmpV
    rw [decide_eq_true]; · rfl
    split <;> split <;> (try split) <;> omega
def okAt (N : Nat) (ts : List Tie) (i : Nat) : Prop :=
  0 ≤ (ts.getD i zT).1 ∧ (ts.getD i zT).1 < (ts.getD i zT).2.1 ∧ (ts.getD i zT).2.1 < (N : Int) ∧ 0 ≤ (ts.getD i zT).2.2.1 ∧ (ts.getD i zT).2.2.1 ≤ topV N ∧ (i = 0 ∨ ahead (ts.getD (i - 1) zT) (ts.getD i zT))
instance (N : Nat) (ts : List Tie) (i : Nat) : Decidable (okAt N ts i) := inferInstanceAs (Decidable (_ ∧ _ ∧ _ ∧ _ ∧ _ ∧ _))
def ed (t : Tie) : Edge := (t.1, t.2.1, ())
def trs (ts : List Tie) (k : Nat) : List Edge := (List.range k).foldl (fun a i => if (ts.getD i zT).2.2.2.1 = true then a ++ [ed (ts.getD i zT)] else a) []
theorem walk_all {α β ρ : Type} (P : β → Prop) [DecidablePred P] (g : β → α → α) (fin : α → ρ) (rt : ρ) : ∀ (xs : List β) (a : α), walk (fun x a => if P x then .inl (g x a) else .inr rt) fin xs a = if ∀ x ∈ xs, P x then fin (xs.foldl (fun a x => g x a) a) else rt := by
  intro xs
  induction xs with
  | nil => intro a; simp [walk]
  | cons x xs ih =>
    intro a
    rw [walk]
    by_cases h : P x
    · rw [if_pos h]
      simp only []
      rw [ih]
      simp [h]
    · rw [if_neg h]
      simp [h]
theorem trs_succ (ts : List Tie) (k : Nat) : trs ts (k + 1) = if (ts.getD k zT).2.2.2.1 = true then trs ts k ++ [ed (ts.getD k zT)] else trs ts k := by
  unfold trs
  rw [List.range_succ, List.foldl_append]
  rfl
theorem trs_len (ts : List Tie) : ∀ k, (trs ts k).length ≤ k := by
  intro k
  induction k with
  | zero => exact Nat.le_refl _
  | succ k ih =>
    rw [trs_succ]
    split
    · rw [List.length_append]; simp; omega
    · omega
theorem trs_mem (ts : List Tie) (e : Edge) : ∀ k, e ∈ trs ts k → ∃ i, i < k ∧ e = ed (ts.getD i zT) := by
  intro k
  induction k with
  | zero => intro h; simp [trs] at h
  | succ k ih =>
    intro h
    rw [trs_succ] at h
    split at h
    · rcases List.mem_append.1 h with h | h
      · obtain ⟨i, h1, h2⟩ := ih h; exact ⟨i, by omega, h2⟩
      · simp only [List.mem_singleton] at h; exact ⟨k, by omega, h⟩
    · obtain ⟨i, h1, h2⟩ := ih h; exact ⟨i, by omega, h2⟩
def oks (N : Nat) (ts : List Tie) : Prop := ∀ i ∈ List.range ts.length, okAt N ts i
instance (N : Nat) (ts : List Tie) : Decidable (oks N ts) := inferInstanceAs (Decidable (∀ i ∈ List.range ts.length, okAt N ts i))
theorem lright_loop (N : Nat) (hN : N ≤ 64) (ts : List Tie) (hs : ts.length ≤ 400) :
    iterL lright_s0 many ((N : Int), ts, topV N, ts, dlen ts, (0 : Int), ()) = some (if oks N ts then .inr (.inl ((N : Int), ts, ())) else .inl (false, ())) := by
  have e := walkL (step := lright_s0) (fun i (_ : Unit) => ((N : Int), ts, topV N, ts, dlen ts, (i : Int), ())) (List.range ts.length) (fun i a => if okAt N ts i then .inl a else .inr (.inl (false, ()))) (fun _ => .inr (.inl ((N : Int), ts, ()))) (fun _ _ => True) (by simp; omega)
    (fun i x a hi hx _ => by
      have := range_get' hx
      subst this
      rw [List.length_range] at hi
      have step : lright_s0 ((N : Int), ts, topV N, ts, dlen ts, (x : Int), ()) = if okAt N ts x then some (.inl ((N : Int), ts, topV N, ts, dlen ts, ((x + 1 : Nat) : Int), ())) else some (.inr (.inl (false, ()))) := by
        rw [lright_s0, dlen_l, ilt_nat, decide_eq_true hi]
        simp only [idx_l zT hi]
        obtain ⟨t, ht⟩ : ∃ t, ts.getD x zT = t := ⟨_, rfl⟩
        have hk : okAt N ts x ↔ (0 ≤ t.1 ∧ t.1 < t.2.1 ∧ t.2.1 < (N : Int) ∧ 0 ≤ t.2.2.1 ∧ t.2.2.1 ≤ topV N ∧ (x = 0 ∨ ahead (ts.getD (x - 1) zT) t)) := by unfold okAt; rw [ht]
        rw [ht]
        rw [ilt_eq, ile_eq, ile_eq, ilt_eq, ilt_eq]
        by_cases h1 : t.1 < 0
        · rw [decide_eq_true h1, if_neg (fun h => by obtain ⟨q1, q2, q3, q4, q5, _⟩ := hk.1 h; omega)]
        rw [decide_eq_false h1]
        by_cases h2 : t.2.1 ≤ t.1
        · rw [decide_eq_true h2, if_neg (fun h => by obtain ⟨q1, q2, q3, q4, q5, _⟩ := hk.1 h; omega)]
        rw [decide_eq_false h2]
        by_cases h3 : (N : Int) ≤ t.2.1
        · rw [decide_eq_true h3, if_neg (fun h => by obtain ⟨q1, q2, q3, q4, q5, _⟩ := hk.1 h; omega)]
        rw [decide_eq_false h3]
        by_cases h4 : t.2.2.1 < 0
        · rw [decide_eq_true h4, if_neg (fun h => by obtain ⟨q1, q2, q3, q4, q5, _⟩ := hk.1 h; omega)]
        rw [decide_eq_false h4]
        by_cases h5 : topV N < t.2.2.1
        · rw [decide_eq_true h5, if_neg (fun h => by obtain ⟨q1, q2, q3, q4, q5, _⟩ := hk.1 h; omega)]
        rw [decide_eq_false h5]
        simp only []
        rw [wrap_add1 (by omega), ilt_eq]
        by_cases h6 : x = 0
        · subst h6
          rw [decide_eq_false (by omega), if_pos (hk.2 ⟨by omega, by omega, by omega, by omega, by omega, .inl rfl⟩)]
        · rw [decide_eq_true (by omega), wrap_in (by omega), show ((x : Int) - 1) = ((x - 1 : Nat) : Int) by omega]
          simp only [idx_l zT (show x - 1 < ts.length by omega)]
          obtain ⟨y, ey, hy⟩ := lcompare_val (ts.getD (x - 1) zT) t
          have ey' : lcompare (((ts.getD (x - 1) zT).1, ((ts.getD (x - 1) zT).2.1, ((ts.getD (x - 1) zT).2.2.1, ((ts.getD (x - 1) zT).2.2.2.1, ())))), (t.1, (t.2.1, (t.2.2.1, (t.2.2.2.1, ())))), ()) = some (y, ()) := ey
          simp only [ey', hy]
          by_cases h7 : ahead (ts.getD (x - 1) zT) t
          · rw [decide_eq_true h7, if_pos (hk.2 ⟨by omega, by omega, by omega, by omega, by omega, .inr h7⟩)]
            rfl
          · rw [decide_eq_false h7, if_neg (fun h => by rcases (hk.1 h).2.2.2.2.2 with h | h; exact h6 h; exact h7 h)]
            rfl
      by_cases h : okAt N ts x
      · rw [if_pos h] at step ⊢
        refine ⟨fun m' h' => ?_, fun r h' => (by cases h')⟩
        cases h'
        exact ⟨step, trivial⟩
      · rw [if_neg h] at step ⊢
        refine ⟨fun m' h' => (by cases h'), fun r h' => ?_⟩
        cases h'
        exact step)
    (fun a _ => by rw [lright_s0, List.length_range, dlen_l, ilt_nat, decide_eq_false (by omega)]) () trivial
  have e' : iterL lright_s0 many ((N : Int), ts, topV N, ts, dlen ts, (0 : Int), ()) = _ := e
  rw [e', walk_all (okAt N ts) (fun _ a => a)]
  rfl
theorem right21_loop (N : Nat) (hN : N ≤ 64) (ts : List Tie) (hs : ts.length ≤ 400) :
    iterL right21_s0 many ((N : Int), ts, [], (0 : Int), ()) = some (if oks N ts then .inr (.inl ((N : Int), ts, trs ts ts.length, ())) else .inl (false, ())) := by
  have e := walkL (step := right21_s0) (fun i (a : List Edge) => ((N : Int), ts, a, (i : Int), ())) (List.range ts.length) (fun i a => if okAt N ts i then .inl (if (ts.getD i zT).2.2.2.1 = true then a ++ [ed (ts.getD i zT)] else a) else .inr (.inl (false, ()))) (fun a => .inr (.inl ((N : Int), ts, a, ()))) (fun i a => a.length ≤ i) (by simp; omega)
    (fun i x a hi hx ha => by
      have := range_get' hx
      subst this
      rw [List.length_range] at hi
      have step : right21_s0 ((N : Int), ts, a, (x : Int), ()) = if okAt N ts x then some (.inl ((N : Int), ts, if (ts.getD x zT).2.2.2.1 = true then a ++ [ed (ts.getD x zT)] else a, ((x + 1 : Nat) : Int), ())) else some (.inr (.inl (false, ()))) := by
        rw [right21_s0, dlen_l, ilt_nat, decide_eq_true hi]
        simp only [idx_l zT hi, top21_val N hN]
        obtain ⟨t, ht⟩ : ∃ t, ts.getD x zT = t := ⟨_, rfl⟩
        have hk : okAt N ts x ↔ (0 ≤ t.1 ∧ t.1 < t.2.1 ∧ t.2.1 < (N : Int) ∧ 0 ≤ t.2.2.1 ∧ t.2.2.1 ≤ topV N ∧ (x = 0 ∨ ahead (ts.getD (x - 1) zT) t)) := by unfold okAt; rw [ht]
        rw [ht]
        rw [ilt_eq, ile_eq, ile_eq, ilt_eq, ilt_eq]
        by_cases h1 : t.1 < 0
        · rw [decide_eq_true h1, if_neg (fun h => by obtain ⟨q1, q2, q3, q4, q5, _⟩ := hk.1 h; omega)]
        rw [decide_eq_false h1]
        by_cases h2 : t.2.1 ≤ t.1
        · rw [decide_eq_true h2, if_neg (fun h => by obtain ⟨q1, q2, q3, q4, q5, _⟩ := hk.1 h; omega)]
        rw [decide_eq_false h2]
        by_cases h3 : (N : Int) ≤ t.2.1
        · rw [decide_eq_true h3, if_neg (fun h => by obtain ⟨q1, q2, q3, q4, q5, _⟩ := hk.1 h; omega)]
        rw [decide_eq_false h3]
        by_cases h4 : t.2.2.1 < 0
        · rw [decide_eq_true h4, if_neg (fun h => by obtain ⟨q1, q2, q3, q4, q5, _⟩ := hk.1 h; omega)]
        rw [decide_eq_false h4]
        by_cases h5 : topV N < t.2.2.1
        · rw [decide_eq_true h5, if_neg (fun h => by obtain ⟨q1, q2, q3, q4, q5, _⟩ := hk.1 h; omega)]
        rw [decide_eq_false h5]
        simp only [dlen_l]
        have hfit : fits ((a.length : Int) + (([(t.1, t.2.1, ())] : List Edge).length : Int)) = true := fits_l (by simp; omega)
        rw [wrap_add1 (by omega), ilt_eq]
        by_cases h6 : x = 0
        · subst h6
          rw [decide_eq_false (by omega), if_pos (hk.2 ⟨by omega, by omega, by omega, by omega, by omega, .inl rfl⟩)]
          cases ht4 : t.2.2.2.1
          · simp
          · simp only [hfit]
            simp [ed, dapp]
        · rw [decide_eq_true (by omega), wrap_in (by omega), show ((x : Int) - 1) = ((x - 1 : Nat) : Int) by omega]
          simp only [idx_l zT (show x - 1 < ts.length by omega), ieq_dec]
          generalize ts.getD (x - 1) zT = p at hk ⊢
          rw [ilt_eq, ile_eq]
          by_cases h7 : t.1 < p.1
          · rw [decide_eq_true h7, if_neg (fun h => by rcases (hk.1 h).2.2.2.2.2 with h | h | h <;> omega)]
          rw [decide_eq_false h7]
          by_cases h8 : p.1 = t.1
          · rw [decide_eq_true h8]
            by_cases h9 : t.2.1 ≤ p.2.1
            · rw [decide_eq_true h9, if_neg (fun h => by rcases (hk.1 h).2.2.2.2.2 with h | h | h <;> omega)]
            rw [decide_eq_false h9, if_pos (hk.2 ⟨by omega, by omega, by omega, by omega, by omega, .inr (.inr ⟨h8, by omega⟩)⟩)]
            cases ht4 : t.2.2.2.1
            · simp
            · simp only [hfit]
              simp [ed, dapp]
          · rw [decide_eq_false h8, if_pos (hk.2 ⟨by omega, by omega, by omega, by omega, by omega, .inr (.inl (by omega))⟩)]
            cases ht4 : t.2.2.2.1
            · simp
            · simp only [hfit]
              simp [ed, dapp]
      by_cases h : okAt N ts x
      · rw [if_pos h] at step ⊢
        refine ⟨fun m' h' => ?_, fun r h' => (by cases h')⟩
        cases h'
        refine ⟨step, ?_⟩
        split
        · rw [List.length_append]; simp; omega
        · omega
      · rw [if_neg h] at step ⊢
        refine ⟨fun m' h' => (by cases h'), fun r h' => ?_⟩
        cases h'
        exact step)
    (fun a _ => by rw [right21_s0, List.length_range, dlen_l, ilt_nat, decide_eq_false (by omega)]) [] (Nat.le_refl _)
  have e' : iterL right21_s0 many ((N : Int), ts, [], (0 : Int), ()) = _ := e
  rw [e', walk_all (okAt N ts) (fun i a => if (ts.getD i zT).2.2.2.1 = true then a ++ [ed (ts.getD i zT)] else a)]
  rfl
end Go.Pev.Pl
end
section
namespace Go.Pev.Pl
set_option linter.unusedSimpArgs false
set_option maxRecDepth 100000
theorem okAt_in {N : Nat} {ts : List Tie} (hN : N ≤ 64) {i : Nat} (h : okAt N ts i) : In (N : Int) (ed (ts.getD i zT)).1 ∧ In (N : Int) (ed (ts.getD i zT)).2.1 := by
  obtain ⟨q1, q2, q3, _⟩ := h
  exact ⟨⟨by omega, by omega, q1, by show (ts.getD i zT).1 < _; omega⟩, ⟨by omega, by omega, by show 0 ≤ (ts.getD i zT).2.1; omega, q3⟩⟩
theorem trs_in {N : Nat} {ts : List Tie} (hN : N ≤ 64) (h : oks N ts) : ∀ e ∈ trs ts ts.length, In (N : Int) e.1 ∧ In (N : Int) e.2.1 := by
  intro e he
  obtain ⟨i, hi, rfl⟩ := trs_mem ts e _ he
  exact okAt_in hN (h i (by simp [hi]))
theorem eds_in {N : Nat} {ts : List Tie} (hN : N ≤ 64) (h : oks N ts) : ∀ e ∈ ts.map ed, In (N : Int) e.1 ∧ In (N : Int) e.2.1 := by
  intro e he
  obtain ⟨t, ht, rfl⟩ := List.mem_map.1 he
  obtain ⟨i, hi, rfl⟩ := List.getElem_of_mem ht
  have := okAt_in hN (h i (by simp [hi]))
  simpa [hi] using this
theorem ltrees_val {N : Nat} (ts : List Tie) (hs : ts.length ≤ 400) (h : oks N ts) : ltrees (((N : Int), (ts, ())), (0 : Int), ()) = some (trs ts ts.length, ()) := by
  rw [ltrees_eq, ltrees_d]
  have e := walkL (step := ltrees_s0) (fun i (a : List Edge) => ((0 : Int), a, ts, dlen ts, (i : Int), ())) (List.range ts.length) (fun i a => .inl (if (ts.getD i zT).2.2.2.1 = true then a ++ [ed (ts.getD i zT)] else a)) (fun a => .inl (a, ())) (fun i a => a.length ≤ i) (by simp; omega)
    (fun i x a hi hx ha => by
      refine ⟨fun m' h' => ?_, fun r h' => (by cases h')⟩
      cases h'
      have := range_get' hx
      subst this
      rw [List.length_range] at hi
      have hlv := (h x (by simp [hi])).2.2.2.1
      constructor
      · rw [ltrees_s0, dlen_l, ilt_nat, decide_eq_true hi]
        simp only [idx_l zT hi, dlen_l]
        have hfit : fits ((a.length : Int) + (([((ts.getD x zT).1, (ts.getD x zT).2.1, ())] : List Edge).length : Int)) = true := fits_l (by simp; omega)
        rw [wrap_add1 (by omega), ile_eq, decide_eq_true hlv]
        cases ht4 : (ts.getD x zT).2.2.2.1
        · simp
        · simp only [hfit]
          simp [ed, dapp]
      · split
        · rw [List.length_append]; simp; omega
        · omega)
    (fun a _ => by rw [ltrees_s0, List.length_range, dlen_l, ilt_nat, decide_eq_false (by omega)]) [] (Nat.le_refl _)
  have e' : iterL ltrees_s0 many ((0 : Int), [], ts, dlen ts, (0 : Int), ()) = _ := e
  simp only [e']
  rw [walk_fold (fun i a => if (ts.getD i zT).2.2.2.1 = true then a ++ [ed (ts.getD i zT)] else a)]
  rfl
def cnt (out : List Int) (N : Nat) : Nat := ((List.range N).filter fun k => decide (out.getD k 0 = (k : Int))).length
theorem rings_count {N : Nat} {rings : List (List Int)} {l : List Edge} {out : List Int} (h : FC (N : Int) rings l) (hc : ClOK (N : Int) l out) : rings.length = cnt out N := by
  have hsz := h.fr.sz
  have hp : (rings.map hd).Perm (((List.range N).filter fun k => decide (out.getD k 0 = (k : Int))).map fun (k : Nat) => (k : Int)) := by
    rw [List.perm_ext_iff_of_nodup]
    · intro a
      simp only [List.mem_map, List.mem_filter, List.mem_range, decide_eq_true_eq]
      constructor
      · rintro ⟨A, hA, rfl⟩
        have gA := h.fr.rg A hA
        have ih : In (N : Int) (hd A) := RG_head gA
        have hh := hd_mem gA.2.1
        have := hd_class h hc hA ih hh
        obtain ⟨_, _, a1, a2⟩ := ih
        refine ⟨(hd A).toNat, ⟨by omega, ?_⟩, by omega⟩
        rw [show out.getD (hd A).toNat 0 = cl out (hd A) from rfl, ← this]
        omega
      · rintro ⟨k, ⟨hk, ho⟩, rfl⟩
        have ik : In (N : Int) (k : Int) := ⟨hsz.1, hsz.2, by omega, by omega⟩
        obtain ⟨A, hA, hm⟩ := h.fr.cov _ ik
        refine ⟨A, hA, ?_⟩
        rw [hd_class h hc hA ik hm]
        unfold cl
        rw [Int.toNat_natCast]; exact ho
    · exact (List.pairwise_map.2 h.fr.up).imp (fun h => by omega)
    · refine List.Pairwise.map _ (S := fun a b => a ≠ b) (R := fun a b => a ≠ b) (fun a b h h' => h (by omega)) ?_
      exact (List.nodup_range).filter _
  have := hp.length_eq
  rw [List.length_map, List.length_map] at this
  exact this
theorem right21_count (N : Nat) (hN : N ≤ 64) (p : List Tie) (q : List Edge) (out : List Int) (ho : out.length = N) : iterL right21_s1 many ((N : Int), p, q, out, (0 : Int), (0 : Int), ()) = some (.inl ((N : Int), p, q, (cnt out N : Int), ())) := by
  have e := walkL (step := right21_s1) (fun i (a : Nat) => ((N : Int), p, q, out, (a : Int), (i : Int), ())) (List.range N) (fun k a => .inl (if out.getD k 0 = (k : Int) then a + 1 else a)) (fun a => .inl ((N : Int), p, q, (a : Int), ())) (fun i a => a ≤ i) (by simp; omega)
    (fun i x a hi hx ha => by
      refine ⟨fun m' h' => ?_, fun r h' => (by cases h')⟩
      cases h'
      have := range_get' hx
      subst this
      rw [List.length_range] at hi
      constructor
      · rw [right21_s1, ilt_nat, decide_eq_true hi]
        simp only [idx_l 0 (show x < out.length by omega), dget_l, ieq_dec]
        rw [wrap_add1 (by omega), wrap_add1 (by omega)]
        by_cases h : out.getD x 0 = (x : Int)
        · rw [decide_eq_true h, if_pos h]
        · rw [decide_eq_false h, if_neg h]
      · split <;> omega)
    (fun a _ => by rw [right21_s1, List.length_range, ilt_nat, decide_eq_false (by omega)]) 0 (Nat.le_refl _)
  have e' : iterL right21_s1 many ((N : Int), p, q, out, (0 : Int), (0 : Int), ()) = _ := e
  rw [e', walk_fold (fun k a => if out.getD k 0 = (k : Int) then a + 1 else a)]
  have key : ∀ (xs : List Nat) (a : Nat), xs.foldl (fun a k => if out.getD k 0 = (k : Int) then a + 1 else a) a = a + (xs.filter fun k => decide (out.getD k 0 = (k : Int))).length := by
    intro xs
    induction xs with
    | nil => intro a; rfl
    | cons x xs ih =>
      intro a
      rw [List.foldl_cons, ih, List.filter_cons]
      by_cases h : out.getD x 0 = (x : Int)
      · simp only [h, if_true, decide_true, List.length_cons]; omega
      · simp only [h, if_false, decide_false, Bool.false_eq_true]
  rw [key, Nat.zero_add]
  rfl
theorem both_right (n : Int) (ts : List Tie) (hl : ts.length < 4611686018427387904) : ∃ b : Bool, right21 ((n, (ts, ())), ()) = some (b, ()) ∧ lright ((n, (ts, ())), ()) = some (b, ()) ∧ (b = true → ∃ N : Nat, n = (N : Int) ∧ 1 ≤ N ∧ N ≤ 64 ∧ ts.length ≤ 400 ∧ oks N ts) := by
  by_cases hn : ¬ (1 ≤ n ∧ n ≤ 64)
  · refine ⟨false, ?_, ?_, fun h => by cases h⟩
    · rw [right21_eq, right21_d, ilt_eq, ilt_eq]
      by_cases h : n < 1
      · simp only [decide_eq_true h]
      · simp only [decide_eq_false h, decide_eq_true (show 64 < n by omega)]
    · rw [lright_eq, lright_d]
      simp only [lsized_eq, lsized_d, ile_eq]
      by_cases h : 1 ≤ n
      · simp only [decide_eq_true h, decide_eq_false (show ¬ n ≤ 64 by omega), Bool.not_false]
      · simp only [decide_eq_false h, Bool.not_false]
  have hn := Classical.not_not.1 hn
  obtain ⟨N, rfl⟩ := Int.eq_ofNat_of_zero_le (show 0 ≤ n by omega)
  have hsz : lsized ((N : Int), ()) = some (true, ()) := by
    simp only [lsized_eq, lsized_d, ile_eq, decide_eq_true hn.1, decide_eq_true hn.2]
  by_cases h4 : ¬ ts.length ≤ 400
  · refine ⟨false, ?_, ?_, fun h => by cases h⟩
    · rw [right21_eq, right21_d]
      simp only [ilt_eq, dlen_l]
      rw [decide_eq_false (show ¬ (N : Int) < 1 by omega), decide_eq_false (show ¬ 64 < (N : Int) by omega), decide_eq_true (show 400 < (ts.length : Int) by omega)]
    · rw [lright_eq, lright_d]
      simp only [hsz, Bool.not_true, ilt_eq, dlen_l]
      rw [decide_eq_true (show 400 < (ts.length : Int) by omega)]
  have h4 := Classical.not_not.1 h4
  have R := right21_loop N (by omega) ts h4
  have L := lright_loop N (by omega) ts h4
  by_cases ho : ¬ oks N ts
  · rw [if_neg ho] at R L
    refine ⟨false, ?_, ?_, fun h => by cases h⟩
    · rw [right21_eq, right21_d]
      simp only [ilt_eq, dlen_l]
      rw [decide_eq_false (show ¬ (N : Int) < 1 by omega), decide_eq_false (show ¬ 64 < (N : Int) by omega), decide_eq_false (show ¬ 400 < (ts.length : Int) by omega)]
      simp only [R]
    · rw [lright_eq, lright_d]
      simp only [hsz, Bool.not_true, ilt_eq, dlen_l, ltop_val N (by omega)]
      rw [decide_eq_false (show ¬ 400 < (ts.length : Int) by omega)]
      rw [dlen_l] at L
      simp only [L]
  have ho := Classical.not_not.1 ho
  rw [if_pos ho] at R L
  have hin := trs_in (show N ≤ 64 by omega) ho
  have hlen := trs_len ts ts.length
  obtain ⟨out, hc, hcl⟩ := classes19_val (N : Int) (trs ts ts.length) hn (by omega) hin
  rcases (fof_val (N : Int) (trs ts ts.length) hn (by omega)).symm with ⟨hno, _⟩ | ⟨_, rings, hf, hfc⟩
  · exact absurd hin hno
  have hcount := rings_count hfc hcl
  have hol : out.length = N := by have := hcl.len; omega
  refine ⟨decide ((cnt out N : Int) = (N : Int) - (trs ts ts.length).length), ?_, ?_, fun _ => ⟨N, rfl, by omega, by omega, h4, ho⟩⟩
  · rw [right21_eq, right21_d]
    simp only [ilt_eq, dlen_l]
    rw [decide_eq_false (show ¬ (N : Int) < 1 by omega), decide_eq_false (show ¬ 64 < (N : Int) by omega), decide_eq_false (show ¬ 400 < (ts.length : Int) by omega)]
    simp only [R, hc, right21_count N (by omega) _ _ out hol, ieq_dec]
    rw [wrap_in (by omega)]
  · rw [lright_eq, lright_d]
    simp only [hsz, Bool.not_true, ilt_eq, dlen_l, ltop_val N (by omega)]
    rw [decide_eq_false (show ¬ 400 < (ts.length : Int) by omega)]
    rw [dlen_l] at L
    simp only [L, ltrees_val ts h4 ho, hf, ieq_self', ieq_dec, hcount]
    rw [wrap_in (by omega)]
end Go.Pev.Pl
end
section
namespace Go.Pev.Pl
set_option linter.unusedSimpArgs false
set_option maxRecDepth 100000
theorem ClOK.unique {N : Nat} {l : List Edge} {a b : List Int} (h1 : 1 ≤ N) (h2 : N ≤ 64) (ha : ClOK (N : Int) l a) (hb : ClOK (N : Int) l b) : a = b := by
  have la := ha.len
  have lb := hb.len
  refine eq_of_places (0 : Int) (by omega) fun k hk => ?_
  have ik : In (N : Int) (k : Int) := ⟨by omega, by omega, by omega, by omega⟩
  have e1 := ha.least _ _ ik (hb.isin _ ik) (hb.con _ ik)
  have e2 := hb.least _ _ ik (ha.isin _ ik) (ha.con _ ik)
  unfold cl at e1 e2
  rw [Int.toNat_natCast] at e1 e2
  omega
theorem foldl_eds (xs : List Tie) (a : List Edge) : xs.foldl (fun a x => a ++ [ed x]) a = a ++ xs.map ed := foldl_app ed xs a
theorem ledges_val (n : Int) (ts : List Tie) (hs : ts.length ≤ 400) (h : lright ((n, (ts, ())), ()) = some (true, ())) : ledges ((n, (ts, ())), ()) = some (ts.map ed, ()) := by
  rw [ledges_eq, ledges_d]
  simp only [h, Bool.not_true]
  have e := walkL (step := ledges_s0) (fun i (a : List Edge) => (a, ts, dlen ts, (i : Int), ())) ts (fun x a => .inl (a ++ [ed x])) (fun a => .inl (a, ())) (fun i a => a.length ≤ i) (by omega)
    (fun i x a hi hx ha => by
      refine ⟨fun m' h' => ?_, fun r h' => (by cases h')⟩
      cases h'
      constructor
      · rw [ledges_s0]
        simp only [dlen_l]
        rw [ilt_nat, decide_eq_true hi]
        simp only [idx_some hx]
        rw [fits_l (by simp; omega), wrap_add1 (by omega)]
        rfl
      · rw [List.length_append]; simp; omega)
    (fun a _ => by rw [ledges_s0, dlen_l, ilt_nat, decide_eq_false (by omega)]) [] (Nat.le_refl _)
  have e' : iterL ledges_s0 many ([], ts, dlen ts, (0 : Int), ()) = _ := e
  simp only [e']
  rw [walk_fold (fun x a => a ++ [ed x]), foldl_eds]
  rfl
theorem edges21_val (n : Int) (ts : List Tie) (hs : ts.length ≤ 400) (h : right21 ((n, (ts, ())), ()) = some (true, ())) : edges21 ((n, (ts, ())), ()) = some (ts.map ed, ()) := by
  rw [edges21_eq, edges21_d]
  simp only [h, Bool.not_true]
  have e := walkL (step := edges21_s0) (fun i (a : List Edge) => (n, ts, a, (i : Int), ())) ts (fun x a => .inl (a ++ [ed x])) (fun a => .inl (a, ())) (fun i a => a.length ≤ i) (by omega)
    (fun i x a hi hx ha => by
      refine ⟨fun m' h' => ?_, fun r h' => (by cases h')⟩
      cases h'
      constructor
      · rw [edges21_s0]
        simp only [dlen_l]
        rw [ilt_nat, decide_eq_true hi]
        simp only [idx_some hx]
        rw [fits_l (by simp; omega), wrap_add1 (by omega)]
        rfl
      · rw [List.length_append]; simp; omega)
    (fun a _ => by rw [edges21_s0, dlen_l, ilt_nat, decide_eq_false (by omega)]) [] (Nat.le_refl _)
  have e' : iterL edges21_s0 many (n, ts, [], (0 : Int), ()) = _ := e
  simp only [e']
  rw [walk_fold (fun x a => a ++ [ed x]), foldl_eds]
  rfl
abbrev Ask := Int × Int × Int × Unit
def InV (N : Nat) (x : Int) : Prop := 0 ≤ x ∧ x < (N : Int)
instance (N : Nat) (x : Int) : Decidable (InV N x) := inferInstanceAs (Decidable (_ ∧ _))
def cntC (out : List Int) (N : Nat) (c : Int) : Nat := ((List.range N).filter fun k => decide (out.getD k 0 = c)).length
def ans (N : Nat) (out : List Int) (a : Ask) : Int × Int × Unit :=
  if a.1 = 1 then (if InV N a.2.1 ∧ InV N a.2.2.1 then (if cl out a.2.1 = cl out a.2.2.1 then 1 else 0, 0, ()) else (0, 10, ()))
  else if a.1 = 2 then (if InV N a.2.1 then (cl out a.2.1, 0, ()) else (0, 10, ()))
  else if a.1 = 3 then (if InV N a.2.1 then ((cntC out N (cl out a.2.1) : Int), 0, ()) else (0, 10, ()))
  else if a.1 = 4 then ((cnt out N : Int), 0, ()) else (0, 1, ())
theorem cthere_val {N : Nat} {out : List Int} (ho : out.length = N) (vs : List Int) (hs : vs.length < 100) : cthere (out, vs, ()) = some (decide (∀ v ∈ vs, InV N v), ()) := by
  rw [cthere_eq, cthere_d, contFuncI_cthere_eq, contFuncI_cthere_d, idxFuncI_cthere_eq, idxFuncI_cthere_d]
  have e := findL (step := idxFuncI_cthere_s0) (fun i => (out, vs, dlen vs, (i : Int), ())) vs (fun x => !decide (InV N x)) (fun i => .inl (out, (i : Int), ())) (.inr (.inl (out, ()))) (by omega)
    (fun i x hi hx => by
      rw [idxFuncI_cthere_s0]
      simp only [dlen_l]
      rw [ilt_nat, decide_eq_true hi]
      simp only [idx_some hx]
      rw [ilt_eq, ile_eq, ho, wrap_add1 (by omega)]
      by_cases h1 : x < 0
      · rw [decide_eq_true h1, decide_eq_false (show ¬ InV N x from fun h => by have := h.1; omega)]; rfl
      · rw [decide_eq_false h1]
        by_cases h2 : (N : Int) ≤ x
        · rw [decide_eq_true h2, decide_eq_false (show ¬ InV N x from fun h => by have := h.2; omega)]; rfl
        · rw [decide_eq_false h2, decide_eq_true (show InV N x from ⟨by omega, by omega⟩)]; rfl)
    (by rw [idxFuncI_cthere_s0, dlen_l, ilt_nat, decide_eq_false (by omega)])
  have e' : iterL idxFuncI_cthere_s0 many (out, vs, dlen vs, (0 : Int), ()) = _ := e
  simp only [e']
  have hany : (vs.any fun x => !decide (InV N x)) = !decide (∀ v ∈ vs, InV N v) := by
    rw [Bool.eq_iff_iff]; simp
  rw [hany]
  generalize decide (∀ v ∈ vs, InV N v) = b
  cases b <;> simp [ile_eq]
theorem foldl_cnt (P : Nat → Prop) [DecidablePred P] : ∀ (xs : List Nat) (a : Nat), xs.foldl (fun a k => if P k then a + 1 else a) a = a + (xs.filter fun k => decide (P k)).length := by
  intro xs
  induction xs with
  | nil => intro a; rfl
  | cons x xs ih =>
    intro a
    rw [List.foldl_cons, ih, List.filter_cons]
    by_cases h : P x
    · simp only [h, if_true, decide_true, List.length_cons]; omega
    · simp only [h, if_false, decide_false, Bool.false_eq_true]
theorem cl_get {N : Nat} {out : List Int} (ho : out.length = N) {u : Int} (h : InV N u) : idx out u = some (cl out u) := by
  obtain ⟨U, rfl⟩ := Int.eq_ofNat_of_zero_le h.1
  have := h.2
  rw [idx_l 0 (by omega)]
  unfold cl; rw [Int.toNat_natCast]
theorem count1_val {N : Nat} (hN : N ≤ 64) {out : List Int} (ho : out.length = N) (k u v : Int) (h : InV N u) : count1 (out, out, k, u, v, ()) = some (out, k, u, v, (cntC out N (cl out u) : Int), ()) := by
  rw [count1_eq, count1_d]
  have e := walkL (step := count1_s0) (fun i (a : Nat) => (out, k, u, v, (a : Int), out, dlen out, (i : Int), ())) (List.range N) (fun k a => .inl (if out.getD k 0 = cl out u then a + 1 else a)) (fun a => .inl (out, k, u, v, (a : Int), ())) (fun i a => a ≤ i) (by simp; omega)
    (fun i x a hi hx ha => by
      refine ⟨fun m' h' => ?_, fun r h' => (by cases h')⟩
      cases h'
      have := range_get' hx
      subst this
      rw [List.length_range] at hi
      constructor
      · rw [count1_s0, dlen_l, ho, ilt_nat, decide_eq_true hi]
        simp only [idx_l 0 (show x < out.length by omega), cl_get ho h, ieq_dec]
        rw [wrap_add1 (by omega), wrap_add1 (by omega)]
        by_cases h : out.getD x 0 = cl out u
        · rw [decide_eq_true h, if_pos h]
        · rw [decide_eq_false h, if_neg h]
      · split <;> omega)
    (fun a _ => by rw [count1_s0, List.length_range, dlen_l, ho, ilt_nat, decide_eq_false (by omega)]) 0 (Nat.le_refl _)
  have e' : iterL count1_s0 many (out, k, u, v, (0 : Int), out, dlen out, (0 : Int), ()) = _ := e
  simp only [e']
  rw [walk_fold (fun k a => if out.getD k 0 = cl out u then a + 1 else a), foldl_cnt (fun k => out.getD k 0 = cl out u), Nat.zero_add]
  rfl
theorem count2_val {N : Nat} (hN : N ≤ 64) {out : List Int} (ho : out.length = N) : count2 (out, ()) = some ((cnt out N : Int), ()) := by
  rw [count2_eq, count2_d]
  have e := walkL (step := count2_s0) (fun i (a : Nat) => ((a : Int), out, dlen out, (i : Int), ())) (List.range N) (fun k a => .inl (if out.getD k 0 = (k : Int) then a + 1 else a)) (fun a => .inl ((a : Int), ())) (fun i a => a ≤ i) (by simp; omega)
    (fun i x a hi hx ha => by
      refine ⟨fun m' h' => ?_, fun r h' => (by cases h')⟩
      cases h'
      have := range_get' hx
      subst this
      rw [List.length_range] at hi
      constructor
      · rw [count2_s0, dlen_l, ho, ilt_nat, decide_eq_true hi]
        simp only [idx_l 0 (show x < out.length by omega), ieq_dec]
        rw [wrap_add1 (by omega), wrap_add1 (by omega)]
        by_cases h : out.getD x 0 = (x : Int)
        · rw [decide_eq_true h.symm, if_pos h]
        · rw [decide_eq_false (fun h' => h h'.symm), if_neg h]
      · split <;> omega)
    (fun a _ => by rw [count2_s0, List.length_range, dlen_l, ho, ilt_nat, decide_eq_false (by omega)]) 0 (Nat.le_refl _)
  have e' : iterL count2_s0 many ((0 : Int), out, dlen out, (0 : Int), ()) = _ := e
  simp only [e']
  rw [walk_fold (fun k a => if out.getD k 0 = (k : Int) then a + 1 else a), foldl_cnt (fun k => out.getD k 0 = (k : Int)), Nat.zero_add]
  rfl
theorem canswer_val {N : Nat} (hN : N ≤ 64) {out : List Int} (ho : out.length = N) (a : Ask) : canswer (out, a, ()) = some (ans N out a) := by
  obtain ⟨k, u, v, ⟨⟩⟩ := a
  rw [canswer_eq, canswer_d]
  unfold ans
  simp only [ieq_dec, cthere_val ho [u, v] (by simp), cthere_val ho [u] (by simp), count2_val hN ho]
  by_cases k1 : k = 1
  · simp only [decide_eq_true k1, if_pos k1]
    by_cases h : InV N u ∧ InV N v
    · rw [if_pos h, decide_eq_true (show ∀ x ∈ [u, v], InV N x by simp [h])]
      simp only [Bool.not_true, cl_get ho h.1, cl_get ho h.2]
      by_cases hc : cl out u = cl out v
      · rw [decide_eq_true hc, if_pos hc]
      · rw [decide_eq_false hc, if_neg hc]
    · rw [if_neg h, decide_eq_false (show ¬ ∀ x ∈ [u, v], InV N x by simpa using h)]
      rfl
  simp only [decide_eq_false k1, if_neg k1]
  by_cases k2 : k = 2
  · simp only [decide_eq_true k2, if_pos k2]
    by_cases h : InV N u
    · rw [if_pos h, decide_eq_true (show ∀ x ∈ [u], InV N x by simp [h])]
      simp only [Bool.not_true, cl_get ho h]
    · rw [if_neg h, decide_eq_false (show ¬ ∀ x ∈ [u], InV N x by simpa using h)]
      rfl
  simp only [decide_eq_false k2, if_neg k2]
  by_cases k3 : k = 3
  · simp only [decide_eq_true k3, if_pos k3]
    by_cases h : InV N u
    · rw [if_pos h, decide_eq_true (show ∀ x ∈ [u], InV N x by simp [h])]
      simp only [Bool.not_true, count1_val hN ho k u v h]
    · rw [if_neg h, decide_eq_false (show ¬ ∀ x ∈ [u], InV N x by simpa using h)]
      rfl
  simp only [decide_eq_false k3, if_neg k3]
  by_cases k4 : k = 4
  · simp only [decide_eq_true k4, if_pos k4]
  · simp only [decide_eq_false k4, if_neg k4]
end Go.Pev.Pl
end
section
namespace Go.Pev.Pl
set_option linter.unusedSimpArgs false
set_option maxRecDepth 100000
theorem sanswer_right {n : Int} {ts : List Tie} {N : Nat} {out : List Int} (hN : N ≤ 64) (ho : out.length = N) (h : sayof ((n, (ts, ())), ()) = some (out, true, ())) (a : Ask) : sanswer ((n, (ts, ())), a, ()) = some (ans N out a) := by
  rw [sanswer_eq, sanswer_d]
  have hc := canswer_val hN ho a
  obtain ⟨k, u, v, ⟨⟩⟩ := a
  simp only [h, Bool.not_true, hc]
end Go.Pev.Pl
end
section
namespace Go.Pev.Pl
set_option linter.unusedSimpArgs false
set_option maxRecDepth 100000
theorem has22_val (l : List Edge) (u v : Int) (hs : l.length < 1073741824) : has22 (l, (u, (v, ())), ()) = some (decide (((u, (v, ())) : Edge) ∈ l), ()) := by
  rw [has22_eq, has22_d]
  have e := findL (step := has22_s0) (fun i => (l, u, v, (i : Int), ())) l (fun x => decide (x = (u, v, ()))) (fun _ => .inl (true, ())) (.inr (.inl ())) (by omega)
    (fun i x hi hx => by
      rw [has22_s0, dlen_l, ilt_nat, decide_eq_true hi]
      simp only [idx_some hx, ieq_dec]
      rw [wrap_add1 (by omega)]
      obtain ⟨a, b, ⟨⟩⟩ := x
      by_cases h1 : a = u
      · by_cases h2 : b = v
        · simp [h1, h2]
        · simp [h1, h2]
      · simp [h1])
    (by rw [has22_s0, dlen_l, ilt_nat, decide_eq_false (by omega)])
  have e' : iterL has22_s0 many (l, u, v, (0 : Int), ()) = _ := e
  simp only [e']
  have hany : (l.any fun x => decide (x = (u, v, ()))) = decide (((u, (v, ())) : Edge) ∈ l) := by
    rw [Bool.eq_iff_iff]
    simp
  rw [hany]
  generalize decide (((u, (v, ())) : Edge) ∈ l) = b
  cases b <;> rfl
theorem asked22_val {N : Nat} (h1 : 1 ≤ N) (hN : N ≤ 64) (ts : List Tie) (l : List Edge) (hs : l.length < 1073741824) (hr : right21 (((N : Int), (ts, ())), ()) = some (true, ())) :
    asked22 (((N : Int), (ts, ())), l, ()) = some (if ∀ e ∈ l, In (N : Int) e.1 ∧ In (N : Int) e.2.1 then 0 else 10, ()) := by
  rw [asked22_eq, asked22_d]
  simp only [hr, Bool.not_true]
  have e := findL (step := asked22_s0) (fun i => (l, (N : Int), ts, (i : Int), ())) l (fun x => !decide (In (N : Int) x.1 ∧ In (N : Int) x.2.1)) (fun _ => .inl (10, ())) (.inr (.inl ())) (by omega)
    (fun i x hi hx => by
      rw [asked22_s0, dlen_l, ilt_nat, decide_eq_true hi]
      simp only [idx_some hx]
      rw [ilt_eq, ile_eq, ilt_eq, ile_eq, wrap_add1 (by omega)]
      by_cases q1 : x.1 < 0
      · rw [decide_eq_true q1, decide_eq_false (show ¬ (In (N : Int) x.1 ∧ In (N : Int) x.2.1) from fun h => by have := h.1.2.2.1; omega)]; rfl
      rw [decide_eq_false q1]
      by_cases q2 : (N : Int) ≤ x.1
      · rw [decide_eq_true q2, decide_eq_false (show ¬ (In (N : Int) x.1 ∧ In (N : Int) x.2.1) from fun h => by have := h.1.2.2.2; omega)]; rfl
      rw [decide_eq_false q2]
      by_cases q3 : x.2.1 < 0
      · rw [decide_eq_true q3, decide_eq_false (show ¬ (In (N : Int) x.1 ∧ In (N : Int) x.2.1) from fun h => by have := h.2.2.2.1; omega)]; rfl
      rw [decide_eq_false q3]
      by_cases q4 : (N : Int) ≤ x.2.1
      · rw [decide_eq_true q4, decide_eq_false (show ¬ (In (N : Int) x.1 ∧ In (N : Int) x.2.1) from fun h => by have := h.2.2.2.2; omega)]; rfl
      rw [decide_eq_false q4, decide_eq_true (show In (N : Int) x.1 ∧ In (N : Int) x.2.1 from ⟨⟨by omega, by omega, by omega, by omega⟩, ⟨by omega, by omega, by omega, by omega⟩⟩)]
      rfl)
    (by rw [asked22_s0, dlen_l, ilt_nat, decide_eq_false (by omega)])
  have e' : iterL asked22_s0 many (l, (N : Int), ts, (0 : Int), ()) = _ := e
  rw [e']
  by_cases h : ∀ e ∈ l, In (N : Int) e.1 ∧ In (N : Int) e.2.1
  · have : (l.any fun x => !decide (In (N : Int) x.1 ∧ In (N : Int) x.2.1)) = false := by
      rw [List.any_eq_false]
      intro x hx
      simp [h x hx]
    rw [this, if_pos h]
    rfl
  · have : (l.any fun x => !decide (In (N : Int) x.1 ∧ In (N : Int) x.2.1)) = true := by
      rw [List.any_eq_true]
      refine Classical.byContradiction fun hn => h fun e he => ?_
      refine Classical.byContradiction fun hne => hn ⟨e, he, by rw [decide_eq_false hne]; rfl⟩
    rw [this, if_neg h]
    rfl
def hasE (l : List Edge) (u v : Int) : Prop := ((u, (v, ())) : Edge) ∈ l ∨ ((v, (u, ())) : Edge) ∈ l
instance (l : List Edge) (u v : Int) : Decidable (hasE l u v) := inferInstanceAs (Decidable (_ ∨ _))
def rowL (N : Nat) (l : List Edge) (u : Nat) : List Edge := ((List.range (N - (u + 1))).filter fun i => decide (hasE l (u : Int) ((u + 1 + i : Nat) : Int))).map fun (i : Nat) => ((u : Int), ((u + 1 + i : Nat) : Int), ())
def plainL (N : Nat) (l : List Edge) : List Edge := (List.range N).flatMap fun u => rowL N l u
theorem foldl_if_app {α β : Type} (P : β → Prop) [DecidablePred P] (g : β → α) : ∀ (xs : List β) (a : List α), xs.foldl (fun a x => if P x then a ++ [g x] else a) a = a ++ (xs.filter fun x => decide (P x)).map g := by
  intro xs
  induction xs with
  | nil => intro a; simp
  | cons x xs ih =>
    intro a
    rw [List.foldl_cons, ih, List.filter_cons]
    by_cases h : P x
    · simp [h]
    · simp [h]
theorem plain22_row (N : Nat) (hN : N ≤ 64) (l : List Edge) (hs : l.length < 1073741824) (u : Nat) (hu : u < N) (a : List Edge) (ha : a.length ≤ 64 * u) :
    iterL plain22_s1 many ((N : Int), l, a, (u : Int), ((u + 1 : Nat) : Int), ()) = some (.inl ((N : Int), l, a ++ rowL N l u, (u : Int), ())) := by
  have e := walkL (step := plain22_s1) (fun i (a : List Edge) => ((N : Int), l, a, (u : Int), ((u + 1 + i : Nat) : Int), ())) (List.range (N - (u + 1))) (fun i a => .inl (if hasE l (u : Int) ((u + 1 + i : Nat) : Int) then a ++ [((u : Int), ((u + 1 + i : Nat) : Int), ())] else a)) (fun a => .inl ((N : Int), l, a, (u : Int), ())) (fun i a => a.length ≤ 64 * u + i) (by simp; omega)
    (fun i x a hi hx ha => by
      refine ⟨fun m' h' => ?_, fun r h' => (by cases h')⟩
      cases h'
      have := range_get' hx
      subst this
      rw [List.length_range] at hi
      constructor
      · rw [plain22_s1, ilt_nat, decide_eq_true (show u + 1 + x < N by omega)]
        simp only [has22_val l _ _ hs, dlen_l]
        have hfit : fits ((a.length : Int) + (([((u : Int), ((u + 1 + x : Nat) : Int), ())] : List Edge).length : Int)) = true := fits_l (by simp; omega)
        rw [hfit, wrap_add1 (by omega)]
        by_cases q1 : (((u : Int), (((u + 1 + x : Nat) : Int), ())) : Edge) ∈ l
        · rw [decide_eq_true q1, if_pos (show hasE l (u : Int) ((u + 1 + x : Nat) : Int) from .inl q1)]
          rfl
        · rw [decide_eq_false q1]
          by_cases q2 : (((((u + 1 + x : Nat) : Int), ((u : Int), ()))) : Edge) ∈ l
          · rw [decide_eq_true q2, if_pos (show hasE l (u : Int) ((u + 1 + x : Nat) : Int) from .inr q2)]
            rfl
          · rw [decide_eq_false q2, if_neg (show ¬ hasE l (u : Int) ((u + 1 + x : Nat) : Int) from fun h => by rcases h with h | h; exact q1 h; exact q2 h)]
            rfl
      · split
        · rw [List.length_append]; simp; omega
        · omega)
    (fun a _ => by rw [plain22_s1, List.length_range, ilt_nat, decide_eq_false (by omega)]) a (by omega)
  have e' : iterL plain22_s1 many ((N : Int), l, a, (u : Int), ((u + 1 : Nat) : Int), ()) = _ := e
  rw [e', walk_fold (fun i a => if hasE l (u : Int) ((u + 1 + i : Nat) : Int) then a ++ [((u : Int), ((u + 1 + i : Nat) : Int), ())] else a), foldl_if_app (fun i : Nat => hasE l (u : Int) ((u + 1 + i : Nat) : Int)) (fun i : Nat => ((u : Int), ((u + 1 + i : Nat) : Int), ()))]
  rfl
theorem rowL_len (N : Nat) (hN : N ≤ 64) (l : List Edge) (u : Nat) : (rowL N l u).length ≤ 64 := by
  unfold rowL
  rw [List.length_map]
  have := List.length_filter_le (fun i => decide (hasE l (u : Int) ((u + 1 + i : Nat) : Int))) (List.range (N - (u + 1)))
  rw [List.length_range] at this
  omega
theorem plain22_val (N : Nat) (hN : N ≤ 64) (l : List Edge) (hs : l.length < 1073741824) : plain22 ((N : Int), l, ()) = some (plainL N l, ()) := by
  rw [plain22_eq, plain22_d]
  have e := walkL (step := plain22_s0) (fun i (a : List Edge) => ((N : Int), l, a, (i : Int), ())) (List.range N) (fun u a => .inl (a ++ rowL N l u)) (fun a => .inl (a, ())) (fun i a => a.length ≤ 64 * i) (by simp; omega)
    (fun i x a hi hx ha => by
      refine ⟨fun m' h' => ?_, fun r h' => (by cases h')⟩
      cases h'
      have := range_get' hx
      subst this
      rw [List.length_range] at hi
      have hrow := rowL_len N hN l x
      constructor
      · rw [plain22_s0, ilt_nat, decide_eq_true hi, wrap_add1 (by omega)]
        simp only [plain22_row N hN l hs x hi a ha]
        rw [wrap_add1 (by omega)]
      · rw [List.length_append]; omega)
    (fun a _ => by rw [plain22_s0, List.length_range, ilt_nat, decide_eq_false (by omega)]) [] (Nat.le_refl _)
  have e' : iterL plain22_s0 many ((N : Int), l, [], (0 : Int), ()) = _ := e
  simp only [e']
  rw [walk_fold (fun u a => a ++ rowL N l u)]
  have key : ∀ (xs : List Nat) (a : List Edge), xs.foldl (fun a u => a ++ rowL N l u) a = a ++ xs.flatMap fun u => rowL N l u := by
    intro xs
    induction xs with
    | nil => intro a; simp
    | cons x xs ih => intro a; rw [List.foldl_cons, ih]; simp
  rw [key]
  rfl
end Go.Pev.Pl
end
section
namespace Go.Pev.Pl
set_option linter.unusedSimpArgs false
set_option maxRecDepth 100000
theorem plainL_len (N : Nat) (hN : N ≤ 64) (l : List Edge) : (plainL N l).length ≤ 4096 := by
  have key : ∀ M, ((List.range M).flatMap fun u => rowL N l u).length ≤ 64 * M := by
    intro M
    induction M with
    | zero => simp
    | succ M ih =>
      rw [List.range_succ, List.flatMap_append, List.length_append]
      have := rowL_len N hN l M
      simp only [List.flatMap_cons, List.flatMap_nil, List.append_nil]
      omega
  have := key N
  unfold plainL
  omega
def comeL (N : Nat) (ts : List Tie) (l : List Edge) : List Edge := (plainL N l).filter fun x => !decide (x ∈ ts.map ed)
theorem new22_val {N : Nat} (h1 : 1 ≤ N) (hN : N ≤ 64) (ts : List Tie) (ht : ts.length ≤ 400) (l : List Edge) (hs : l.length < 1073741824) (hr : right21 (((N : Int), (ts, ())), ()) = some (true, ())) :
    new22 (((N : Int), (ts, ())), l, ()) = some (if ∀ e ∈ l, In (N : Int) e.1 ∧ In (N : Int) e.2.1 then (comeL N ts l, 0, ()) else ([], 10, ())) := by
  rw [new22_eq, new22_d]
  simp only [asked22_val h1 hN ts l hs hr]
  by_cases h : ¬ ∀ e ∈ l, In (N : Int) e.1 ∧ In (N : Int) e.2.1
  · rw [if_neg h, if_neg h, show ieq (10 : Int) (0 : Int) = false from by rw [ieq_dec]; rfl]
    rfl
  have h := Classical.not_not.1 h
  rw [if_pos h, if_pos h, ieq_self']
  simp only [Bool.not_true, edges21_val (N : Int) ts ht hr, plain22_val N hN l hs]
  have hpl := plainL_len N hN l
  generalize hp : plainL N l = p at hpl
  have e := walkL (step := new22_s0) (fun i (a : List Edge) => (ts.map ed, p, a, (i : Int), ())) p (fun x a => .inl (if ¬ x ∈ ts.map ed then a ++ [x] else a)) (fun a => .inl (a, ())) (fun i a => a.length ≤ i) (by omega)
    (fun i x a hi hx ha => by
      refine ⟨fun m' h' => ?_, fun r h' => (by cases h')⟩
      cases h'
      constructor
      · rw [new22_s0, dlen_l, ilt_nat, decide_eq_true hi]
        obtain ⟨u, v, ⟨⟩⟩ := x
        simp only [idx_some hx, dget_some hx, has22_val (ts.map ed) u v (by rw [List.length_map]; omega), dlen_l]
        have hfit : fits ((a.length : Int) + (([(u, v, ())] : List Edge).length : Int)) = true := fits_l (by simp; omega)
        rw [hfit, wrap_add1 (by omega)]
        by_cases q : ((u, v, ()) : Edge) ∈ ts.map ed
        · rw [decide_eq_true q, if_neg (fun h => h q)]
          rfl
        · rw [decide_eq_false q, if_pos q]
          rfl
      · split
        · rw [List.length_append]; simp; omega
        · omega)
    (fun a _ => by rw [new22_s0, dlen_l, ilt_nat, decide_eq_false (by omega)]) [] (Nat.le_refl _)
  have e' : iterL new22_s0 many (ts.map ed, p, [], (0 : Int), ()) = _ := e
  rw [e', walk_fold (fun x a => if ¬ x ∈ ts.map ed then a ++ [x] else a), foldl_if_app (fun x : Edge => ¬ x ∈ ts.map ed) (fun x => x)]
  unfold comeL
  rw [hp, List.nil_append, List.map_id']
  have hf : (p.filter fun x => decide ¬x ∈ ts.map ed) = p.filter fun x => !decide (x ∈ ts.map ed) := by
    refine List.filter_congr fun x _ => ?_
    simp
  rw [hf]
def putT (l : List Tie) (t : Tie) : List Tie := l.take (l.findIdx fun x => !decide (ahead x t)) ++ t :: l.drop (l.findIdx fun x => !decide (ahead x t))
theorem put22_val (l : List Tie) (t : Tie) (hs : l.length < 1073741824) : put22 (l, t, ()) = some (putT l t, ()) := by
  obtain ⟨u, v, lv, tr, ⟨⟩⟩ := t
  rw [put22_eq, put22_d]
  have e := findL (step := put22_s0) (fun i => (l, u, v, lv, tr, (i : Int), ())) l (fun x => !decide (ahead x (u, v, lv, tr, ()))) (fun i => .inl (l, u, v, lv, tr, (i : Int), ())) (.inl (l, u, v, lv, tr, (l.length : Int), ())) (by omega)
    (fun i x hi hx => by
      rw [put22_s0, dlen_l, ilt_nat, decide_eq_true hi]
      simp only [idx_some hx, ieq_dec]
      rw [ilt_eq, ilt_eq, wrap_add1 (by omega)]
      by_cases q1 : x.1 < u
      · rw [decide_eq_true q1, decide_eq_true (show ahead x (u, v, lv, tr, ()) from .inl q1)]; rfl
      rw [decide_eq_false q1]
      by_cases q2 : x.1 = u
      · rw [decide_eq_true q2]
        by_cases q3 : x.2.1 < v
        · rw [decide_eq_true q3, decide_eq_true (show ahead x (u, v, lv, tr, ()) from .inr ⟨q2, q3⟩)]; rfl
        · rw [decide_eq_false q3, decide_eq_false (show ¬ ahead x (u, v, lv, tr, ()) from fun h => by rcases h with h | ⟨_, h⟩; exact q1 h; exact q3 h)]; rfl
      · rw [decide_eq_false q2, decide_eq_false (show ¬ ahead x (u, v, lv, tr, ()) from fun h => by rcases h with h | ⟨h, _⟩; exact q1 h; exact q2 h)]; rfl)
    (by rw [put22_s0, dlen_l, ilt_nat, decide_eq_false (by omega)])
  have e' : iterL put22_s0 many (l, u, v, lv, tr, (0 : Int), ()) = _ := e
  have hk : (if (l.any fun x => !decide (ahead x (u, v, lv, tr, ()))) = true then (Sum.inl (l, u, v, lv, tr, ((l.findIdx fun x => !decide (ahead x (u, v, lv, tr, ())) : Nat) : Int), ()) : (List Tie × Int × Int × Int × Bool × Int × Unit) ⊕ Unit) else .inl (l, u, v, lv, tr, (l.length : Int), ())) = .inl (l, u, v, lv, tr, ((l.findIdx fun x => !decide (ahead x (u, v, lv, tr, ())) : Nat) : Int), ()) := by
    by_cases h : (l.any fun x => !decide (ahead x (u, v, lv, tr, ()))) = true
    · rw [if_pos h]
    · rw [if_neg h]
      have : l.findIdx (fun x => !decide (ahead x (u, v, lv, tr, ()))) = l.length := by
        rw [List.findIdx_eq_length]
        intro x hx
        have h' : (l.any fun x => !decide (ahead x (u, v, lv, tr, ()))) = false := by simpa using h
        rw [List.any_eq_false] at h'
        simpa using h' x hx
      rw [this]
  rw [e', hk]
  unfold putT
  have hle : l.findIdx (fun x => !decide (ahead x (u, v, lv, tr, ()))) ≤ l.length := List.findIdx_le_length
  generalize l.findIdx (fun x => !decide (ahead x (u, v, lv, tr, ()))) = k at hle
  have se : subl l (k : Int) (l.length : Int) = some (l.drop k) := subl_end hle
  simp only [subl_0 hle, se, dlen_l, dapp_l, List.nil_append]
  rw [fits_l (by simp; omega), fits_l (by simp; omega), fits_l (by simp; omega)]
  simp
end Go.Pev.Pl
end
section
namespace Go.Pev.Pl
set_option linter.unusedSimpArgs false
def valid (N : Nat) (t : Tie) : Prop := 0 ≤ t.1 ∧ t.1 < t.2.1 ∧ t.2.1 < (N : Int) ∧ 0 ≤ t.2.2.1 ∧ t.2.2.1 ≤ topV N
theorem ahead.trans {a b c : Tie} (h : ahead a b) (h' : ahead b c) : ahead a c := by
  unfold ahead at *
  omega
theorem oks_iff (N : Nat) (ts : List Tie) : oks N ts ↔ (∀ t ∈ ts, valid N t) ∧ ts.Pairwise ahead := by
  constructor
  · intro h
    have hv : ∀ i, i < ts.length → okAt N ts i := fun i hi => h i (by simpa using hi)
    refine ⟨fun t ht => ?_, ?_⟩
    · obtain ⟨i, hi, rfl⟩ := List.getElem_of_mem ht
      obtain ⟨q1, q2, q3, q4, q5, _⟩ := hv i hi
      simp only [List.getD_eq_getElem?_getD, List.getElem?_eq_getElem hi, Option.getD_some] at q1 q2 q3 q4 q5
      exact ⟨q1, q2, q3, q4, q5⟩
    · have key : ∀ (d i : Nat), i + d + 1 < ts.length → ahead (ts.getD i zT) (ts.getD (i + d + 1) zT) := by
        intro d
        induction d with
        | zero =>
          intro i hi
          obtain ⟨_, _, _, _, _, q⟩ := hv (i + 0 + 1) hi
          rcases q with q | q
          · omega
          · simpa using q
        | succ d ih =>
          intro i hi
          have h1 := ih i (by omega)
          obtain ⟨_, _, _, _, _, q⟩ := hv (i + (d + 1) + 1) hi
          rcases q with q | q
          · omega
          · rw [show i + (d + 1) + 1 - 1 = i + d + 1 by omega] at q
            exact h1.trans q
      rw [List.pairwise_iff_getElem]
      intro i j hi hj hij
      have := key (j - i - 1) i (by omega)
      rw [show i + (j - i - 1) + 1 = j by omega] at this
      simpa only [List.getD_eq_getElem?_getD, List.getElem?_eq_getElem hi, List.getElem?_eq_getElem hj, Option.getD_some] using this
  · rintro ⟨h1, h2⟩ i hi
    have hi : i < ts.length := by simpa using hi
    have e : ∀ j (hj : j < ts.length), ts.getD j zT = ts[j] := fun j hj => by
      simp only [List.getD_eq_getElem?_getD, List.getElem?_eq_getElem hj, Option.getD_some]
    obtain ⟨q1, q2, q3, q4, q5⟩ := h1 ts[i] (List.getElem_mem hi)
    unfold okAt
    rw [e i hi]
    refine ⟨q1, q2, q3, q4, q5, ?_⟩
    by_cases h0 : i = 0
    · exact .inl h0
    · right
      rw [e (i - 1) (by omega)]
      exact (List.pairwise_iff_getElem.1 h2) (i - 1) i (by omega) hi (by omega)
theorem putT_perm (l : List Tie) (t : Tie) : (putT l t).Perm (t :: l) := by
  unfold putT
  refine List.perm_middle.trans ?_
  rw [List.take_append_drop]
theorem putT_pair {l : List Tie} {t : Tie} (h : l.Pairwise ahead) (hn : ∀ x ∈ l, ¬ (x.1 = t.1 ∧ x.2.1 = t.2.1)) : (putT l t).Pairwise ahead := by
  induction l with
  | nil => simp [putT]
  | cons a l ih =>
    rw [List.pairwise_cons] at h
    have hna := hn a (by simp)
    have hnl : ∀ x ∈ l, ¬ (x.1 = t.1 ∧ x.2.1 = t.2.1) := fun x hx => hn x (by simp [hx])
    by_cases ha : ahead a t
    · have e : putT (a :: l) t = a :: putT l t := by
        unfold putT
        rw [List.findIdx_cons]
        simp [ha]
      rw [e, List.pairwise_cons]
      refine ⟨fun x hx => ?_, ih h.2 hnl⟩
      rcases List.mem_cons.1 ((putT_perm l t).mem_iff.1 hx) with rfl | hx
      · exact ha
      · exact h.1 x hx
    · have e : putT (a :: l) t = t :: a :: l := by
        unfold putT
        rw [List.findIdx_cons]
        simp [ha]
      have hta : ahead t a := by unfold ahead at *; omega
      rw [e, List.pairwise_cons, List.pairwise_cons]
      refine ⟨fun x hx => ?_, h.1, h.2⟩
      rcases List.mem_cons.1 hx with rfl | hx
      · exact hta
      · exact hta.trans (h.1 x hx)
end Go.Pev.Pl
end
section
namespace Go.Pev.Pl
set_option linter.unusedSimpArgs false
theorem mem_plainL (N : Nat) (l : List Edge) (x : Edge) : x ∈ plainL N l ↔ 0 ≤ x.1 ∧ x.1 < x.2.1 ∧ x.2.1 < (N : Int) ∧ hasE l x.1 x.2.1 := by
  unfold plainL rowL
  simp only [List.mem_flatMap, List.mem_map, List.mem_filter, List.mem_range, decide_eq_true_eq]
  constructor
  · rintro ⟨u, hu, i, ⟨hi, he⟩, rfl⟩
    exact ⟨by show (0 : Int) ≤ (u : Int); omega, by show (u : Int) < ((u + 1 + i : Nat) : Int); omega, by show ((u + 1 + i : Nat) : Int) < (N : Int); omega, he⟩
  · obtain ⟨a, b, ⟨⟩⟩ := x
    rintro ⟨h1, h2, h3, h4⟩
    simp only at h1 h2 h3 h4
    obtain ⟨u, rfl⟩ := Int.eq_ofNat_of_zero_le h1
    obtain ⟨v, rfl⟩ := Int.eq_ofNat_of_zero_le (show 0 ≤ b by omega)
    refine ⟨u, by omega, v - (u + 1), ⟨by omega, ?_⟩, ?_⟩
    · rw [show u + 1 + (v - (u + 1)) = v by omega]; exact h4
    · rw [show u + 1 + (v - (u + 1)) = v by omega]
def aheadE (p x : Edge) : Prop := p.1 < x.1 ∨ (p.1 = x.1 ∧ p.2.1 < x.2.1)
theorem plainL_pair (N : Nat) (l : List Edge) : (plainL N l).Pairwise aheadE := by
  unfold plainL
  rw [List.pairwise_flatMap]
  refine ⟨fun u _ => ?_, ?_⟩
  · unfold rowL
    rw [List.pairwise_map]
    refine List.Pairwise.filter _ ?_
    refine List.pairwise_lt_range.imp fun h => ?_
    exact .inr ⟨rfl, by show ((u + 1 + _ : Nat) : Int) < ((u + 1 + _ : Nat) : Int); omega⟩
  · refine List.pairwise_lt_range.imp fun h x hx y hy => ?_
    unfold rowL at hx hy
    simp only [List.mem_map] at hx hy
    obtain ⟨i, _, rfl⟩ := hx
    obtain ⟨j, _, rfl⟩ := hy
    exact .inl (by simp only; omega)
theorem mem_comeL (N : Nat) (ts : List Tie) (l : List Edge) (x : Edge) : x ∈ comeL N ts l ↔ (0 ≤ x.1 ∧ x.1 < x.2.1 ∧ x.2.1 < (N : Int) ∧ hasE l x.1 x.2.1) ∧ ¬ x ∈ ts.map ed := by
  unfold comeL
  rw [List.mem_filter, mem_plainL]
  simp
theorem comeL_pair (N : Nat) (ts : List Tie) (l : List Edge) : (comeL N ts l).Pairwise aheadE := (plainL_pair N l).filter _
end Go.Pev.Pl
end
section
namespace Go.Pev.Pl
open Tok
instance (n v : Int) : Decidable (In n v) := inferInstanceAs (Decidable (_ ∧ _))
instance (n : Int) : Decidable (Sz n) := inferInstanceAs (Decidable (_ ∧ _))
theorem in18_val (n v : Int) : in18 (n, v, ()) = some (decide (In n v), ()) := by
  rw [in18_eq, in18_d]
  simp only [ile_eq, ilt_eq]
  by_cases h1 : 1 ≤ n <;> by_cases h2 : n ≤ 64 <;> by_cases h3 : 0 ≤ v <;> simp [In, h1, h2, h3]
theorem arc18_val (n u v : Int) : arc18 (n, u, v, ()) = some (arcT n u v, ()) := by
  rw [arc18_eq, arc18_d]
  simp only [in18_val, arcT, ieq_dec]
  by_cases h1 : In n u
  · by_cases h2 : In n v
    · by_cases h3 : u = v
      · simp [h1, h2, h3]
      · obtain ⟨a1, a2, a3, a4⟩ := h1
        obtain ⟨b1, b2, b3, b4⟩ := h2
        have hb := mul_bounds a1 a2 a3 (by omega)
        have e1 : u * n = n * u := Int.mul_comm _ _
        have e2 : n * (u + 1) = n * u + n := by rw [Int.mul_add, Int.mul_one]
        rw [e1, wrap_in (n := n * u) (by omega), wrap_in (n := n + n * u) (by omega), wrap_in (n := n + n * u + v) (by omega), e2]
        have e3 : n + n * u + v = n * u + n + v := by omega
        simp [In, a1, a2, a3, a4, b3, b4, h3, e3]
    · simp [h1, h2]
  · simp [h1]
theorem token18_val (n t : Int) (ht : -9223372036854775808 ≤ t ∧ t ≤ 9223372036854775807) : token18 (n, t, ()) = some (tokR (tokOf n t)) := by
  rw [token18_eq, token18_d]
  simp only [in18_val, ilt_eq, ile_eq]
  by_cases hi : In n t
  · simp only [hi, decide_true, tokOf, if_true, tokR]
  · simp only [hi, decide_false]
    by_cases h1 : n < 1
    · have hs : ¬ Sz n := fun h => by have := h.1; omega
      simp only [h1, decide_true, tokOf, hi, if_false, hs, false_and, tokR]
    · simp only [h1, decide_false]
      by_cases h2 : 64 < n
      · have hs : ¬ Sz n := fun h => by have := h.2; omega
        simp only [h2, decide_true, tokOf, hi, if_false, hs, false_and, tokR]
      · have a1 : 1 ≤ n := by omega
        have a2 : n ≤ 64 := by omega
        have hb := mul_bounds (u := n) a1 a2 (by omega) (by omega)
        have e3 : n * (n + 1) = n * n + n := by rw [Int.mul_add, Int.mul_one]
        rw [wrap_in (n := n * n) (by omega), wrap_in (n := n + n * n) (by omega)]
        simp only [h2, decide_false]
        by_cases h3 : t < n
        · have : ¬ n ≤ t := by omega
          simp only [h3, decide_true, tokOf, hi, if_false, this, false_and, and_false, tokR]
        · simp only [h3, decide_false]
          by_cases h4 : n + n * n ≤ t
          · have : ¬ t < n * (n + 1) := by omega
            simp only [h4, decide_true, tokOf, hi, if_false, this, false_and, and_false, tokR]
          · obtain ⟨d1, d2, d3⟩ := dec_arc (t := t) ⟨a1, a2⟩ (by omega) (by omega)
            have q1 := d1.2.2.1
            have q2 := d1.2.2.2
            rw [wrap_in (n := t - n) (by omega)]
            have hq : (t - n).tdiv n = t / n - 1 := by
              rw [Int.tdiv_eq_ediv_of_nonneg (by omega)]
              have := Int.add_mul_ediv_right t (-1) (show n ≠ 0 by omega)
              rw [show t - n = t + -1 * n by omega, this]; omega
            have hm : (t - n).tmod n = t % n := by
              rw [Int.tmod_eq_emod_of_nonneg (by omega)]
              have := Int.add_mul_emod_self_right t (-1) n
              rw [show t - n = t + -1 * n by omega, this]
            simp only [h4, decide_false, quo_eq, quoR, rem_eq, remR]
            rw [if_neg (by omega), if_neg (by omega), hq, hm, wrap_in (n := t / n - 1) (by omega)]
            simp only []
            rw [ieq_dec, tokOf, if_neg hi]
            by_cases h5 : t / n - 1 = t % n
            · rw [if_neg (by intro h; exact h.2.2.2 h5), decide_eq_true h5]; rfl
            · rw [if_pos ⟨⟨a1, a2⟩, by omega, by omega, h5⟩, decide_eq_false h5]; rfl
theorem lists14_val (xs ys : List (List Int)) (hs : xs.length < 9223372036854775808) (hi : ∀ x ∈ xs, x.length < 9223372036854775808) : lists14 (xs, ys, ()) = some (decide (xs = ys), ()) := by
  rw [lists14_eq, lists14_d, ieq_dlen]
  by_cases hl : xs.length = ys.length
  · rw [decide_eq_true hl]
    simp only [Bool.not_true]
    rcases scanL (step := lists14_s0) (fun i => (xs, ys, ((i : Nat) : Int), ())) xs.length (fun i => !decide (xs.getD i [] = ys.getD i [])) (fun _ => .inl (false, ())) (.inr (.inl ())) hs (fun i hii => by
      have hm : (xs.getD i []).length < 9223372036854775808 := hi _ (by simp [hii])
      rw [lists14_s0, dlen_l, ilt_nat, decide_eq_true hii]
      simp (disch := first | omega | exact hm) only [idx_l ([] : List Int), wrap_add1, ints01_val]
      by_cases h : xs.getD i [] = ys.getD i []
      · rw [decide_eq_true h]; simp
      · rw [decide_eq_false h]; simp) (by rw [lists14_s0, dlen_l, ilt_nat, decide_eq_false (by omega)]) with ⟨k, hk, hP, _, e⟩ | ⟨h, e⟩
    · have e' : iterL lists14_s0 many (xs, ys, (0 : Int), ()) = _ := e
      rw [e']
      have : xs ≠ ys := ne_of_place ([] : List Int) (j := k) (by simpa using hP)
      simp [this]
    · have e' : iterL lists14_s0 many (xs, ys, (0 : Int), ()) = _ := e
      rw [e']
      have : xs = ys := eq_of_places ([] : List Int) hl fun j hj => by simpa using h j hj
      simp [this]
  · rw [decide_eq_false hl]
    have : xs ≠ ys := fun e => hl (by rw [e])
    simp [this]
theorem make18_loop (N : Nat) (hN : N ≤ 64) (c : Int) : ∀ (k i n : Nat), i + k = N → k < n → iterO make18_s0 n ((N : Int), c, (N : Int), singles i, (i : Int), ()) = some (.inl (c, (N : Int), singles N, ())) := by
  intro k
  induction k with
  | zero =>
    intro i n hi hn
    obtain ⟨n, rfl⟩ : ∃ k, n = k + 1 := ⟨n - 1, by omega⟩
    have : i = N := by omega
    subst this
    rw [iterO, make18_s0, ilt_nat, decide_eq_false (by omega)]
  | succ k ih =>
    intro i n hi hn
    obtain ⟨n, rfl⟩ : ∃ k, n = k + 1 := ⟨n - 1, by omega⟩
    rw [iterO, make18_s0, ilt_nat, decide_eq_true (by omega)]
    simp only [dlen_l, singles_len, List.length_cons, List.length_nil]
    rw [fits_l (by omega), wrap_add1 (by omega)]
    simp only [dapp_l, ← singles_succ]
    exact ih (i + 1) n (by omega) (by omega)
theorem make18_val (n : Int) : make18 (n, ()) = some (makeOut n) := by
  have hm : 4294967296 < many := by simp only [many]; omega
  rw [make18_eq, make18_d, makeOut]
  simp only [ilt_eq]
  by_cases h1 : n < 1
  · have : ¬ Sz n := fun h => by have := h.1; omega
    simp [h1, this]
  · by_cases h2 : 64 < n
    · have : ¬ Sz n := fun h => by have := h.2; omega
      simp [h1, h2, this]
    · obtain ⟨N, rfl⟩ := Int.eq_ofNat_of_zero_le (show 0 ≤ n by omega)
      have hS : Sz (N : Int) := ⟨by omega, by omega⟩
      have e := make18_loop N (by omega) 0 N 0 many (by omega) (by omega)
      have e' : iterO make18_s0 many ((N : Int), 0, (N : Int), [], (0 : Int), ()) = _ := e
      simp [h1, h2, hS, iterL_eq, e']
end Go.Pev.Pl
end
section
namespace Go.Pev.Pl
theorem place13_val (xs : List Int) (t : Int) (hs : xs.length < 9223372036854775808) : place13 (xs, t, ()) = some (pos xs t, ()) := by
  rw [place13_eq, place13_d]
  have e := findL (step := place13_s0) (fun i => (xs, t, (i : Int), ())) xs (fun x => decide (x = t)) (fun i => .inl ((i : Int), ())) (.inr (.inl ())) hs
    (fun i x hi hx => by
      rw [place13_s0, dlen_l, ilt_nat, decide_eq_true hi]
      simp only [idx_some hx, ieq_dec]
      by_cases h : x = t
      · simp [h]
      · simp only [h, decide_false]; rw [wrap_add1 (by omega)]; simp)
    (by rw [place13_s0, dlen_l, ilt_nat, decide_eq_false (by omega)])
  have e' : iterL place13_s0 many (xs, t, (0 : Int), ()) = _ := e
  rw [e', any_dec, pos]
  by_cases h : t ∈ xs <;> simp [h]
instance (xs : List Int) : Decidable (Rt xs) := inferInstanceAs (Decidable (_ ∧ _ ∧ _))
theorem right13_val (xs : List Int) : right13 (xs, ()) = some (decide (Rt xs), ()) := by
  rw [right13_eq, right13_d, dlen_l, ilt_eq]
  by_cases hl : xs.length ≤ 1000
  · rw [decide_eq_false (by omega)]
    simp only []
    rcases scanL (step := right13_s0) (fun i => (xs, ((i : Nat) : Int), ())) xs.length (fun i => decide (xs.getD i 0 < 0) || decide (10000 < xs.getD i 0) || decide (xs.getD i 0 ∈ xs.take i)) (fun _ => .inl (false, ())) (.inr (.inl ())) (by omega) (fun i hi => by
      rw [right13_s0, dlen_l, ilt_nat, decide_eq_true hi]
      have hpl : place13 (xs.take i, xs.getD i 0, ()) = some (pos (xs.take i) (xs.getD i 0), ()) := place13_val _ _ (by simp; omega)
      simp (disch := omega) only [idx_l (0 : Int), subl_0, hpl, wrap_add1, ilt_eq, ile_eq]
      by_cases h1 : xs.getD i 0 < 0
      · simp only [h1, decide_true]; simp
      · by_cases h2 : 10000 < xs.getD i 0
        · simp only [h1, h2, decide_true, decide_false]; simp
        · by_cases h3 : xs.getD i 0 ∈ xs.take i
          · obtain ⟨k, e, _⟩ := pos_in h3
            rw [e]
            simp only [h1, h2, h3, decide_true, decide_false]; simp
          · rw [pos_out h3]
            simp only [h1, h2, h3, decide_false]; simp) (by rw [right13_s0, dlen_l, ilt_nat, decide_eq_false (by omega)]) with ⟨k, hk, hP, _, e⟩ | ⟨h, e⟩
    · have e' : iterL right13_s0 many (xs, (0 : Int), ()) = _ := e
      rw [e']
      have : ¬ Rt xs := by
        rintro ⟨_, h1, h2⟩
        have hm : xs.getD k 0 ∈ xs := by
          rw [List.getD_eq_getElem?_getD, List.getElem?_eq_getElem hk, Option.getD_some]; exact List.getElem_mem hk
        have := h1 _ hm
        have h3 := (nodup_places xs).1 h2 k hk
        have c1 : ¬ xs.getD k 0 < 0 := by omega
        have c2 : ¬ 10000 < xs.getD k 0 := by omega
        rw [decide_eq_false c1, decide_eq_false c2, decide_eq_false h3] at hP
        cases hP
      simp [this]
    · have e' : iterL right13_s0 many (xs, (0 : Int), ()) = _ := e
      rw [e']
      have : Rt xs := by
        have key : ∀ j, j < xs.length → ¬ xs.getD j 0 < 0 ∧ ¬ 10000 < xs.getD j 0 ∧ xs.getD j 0 ∉ xs.take j := fun j hj => by
          have := h j hj
          rw [Bool.or_eq_false_iff, Bool.or_eq_false_iff, decide_eq_false_iff_not, decide_eq_false_iff_not, decide_eq_false_iff_not] at this
          exact ⟨this.1.1, this.1.2, this.2⟩
        refine ⟨hl, fun x hx => ?_, (nodup_places xs).2 fun j hj => (key j hj).2.2⟩
        obtain ⟨j, hj, rfl⟩ := List.getElem_of_mem hx
        obtain ⟨k1, k2, _⟩ := key j hj
        rw [List.getD_eq_getElem?_getD, List.getElem?_eq_getElem hj, Option.getD_some] at k1 k2
        omega
      simp [this]
  · rw [decide_eq_true (by omega)]
    have : ¬ Rt xs := fun h => hl h.1
    simp [this]
theorem from13_val (xs : List Int) (t : Int) (hs : xs.length < 9223372036854775808) : from13 (xs, t, ()) = some (fromOut xs t) := by
  rw [from13_eq, from13_d, fromOut]
  simp only [place13_val xs t hs, right13_val]
  by_cases hr : Rt xs
  · have hl := hr.1
    simp only [hr, decide_true, Bool.not_true, true_and]
    by_cases h : t ∈ xs
    · have hk : xs.findIdx (fun x => decide (x = t)) < xs.length := List.findIdx_lt_length.2 ⟨t, h, by simp⟩
      rw [pos, if_pos h, if_pos h, rotAt, rot]
      generalize xs.findIdx (fun x => decide (x = t)) = k at *
      rw [ilt_eq, decide_eq_false (by omega)]
      simp only [subl_end (Nat.le_of_lt hk), subl_0 (Nat.le_of_lt hk)]
      rw [fits_l (by simp only [dlen_l, List.length_nil, List.length_drop]; omega)]
      simp only []
      rw [fits_l (by simp only [dlen_l, dapp_l, List.nil_append, List.length_take, List.length_drop]; omega)]
      simp only [dapp_l, List.nil_append]
    · rw [pos_out h, if_neg h, ilt_eq]
      simp
  · simp [hr]
theorem plain13_val (xs : List Int) : plain13 (xs, ()) = some (plain xs, ()) := by
  rw [plain13_eq, plain13_d, plain]
  simp only [right13_val]
  by_cases hr : Rt xs
  · have hl := hr.1
    simp only [hr, decide_true, Bool.not_true, true_and]
    cases xs with
    | nil => simp [dlen_l, ieq_eq]
    | cons x xs =>
      rw [dlen_l, ieq_dec, decide_eq_false (by simp only [List.length_cons]; omega)]
      have i0 : idx (x :: xs) (0 : Int) = some x := by rw [idx_zero]; rfl
      simp only [i0]
      have e := walkL (step := plain13_s0) (fun i (a : Int) => (x :: xs, a, (i : Int), ())) (x :: xs) (fun y a => .inl (imin a y)) (fun a => .inl (x :: xs, a, ())) (fun _ _ => True) (by omega)
        (fun i y a hi hy _ => by
          refine ⟨fun m' h' => ?_, fun r h' => by cases h'⟩
          cases h'
          rw [plain13_s0, dlen_l, ilt_nat, decide_eq_true hi]
          simp only [idx_some hy]
          rw [wrap_add1 (by omega)]
          exact ⟨rfl, trivial⟩)
        (fun a _ => by rw [plain13_s0, dlen_l, ilt_nat, decide_eq_false (by omega)]) x trivial
      have e' : iterL plain13_s0 many (x :: xs, x, (0 : Int), ()) = _ := e
      rw [e', walk_fold]
      have hmin : (x :: xs).foldl (fun a y => imin a y) x = minL (x :: xs) := by
        rw [List.foldl_cons, minL]
        have : imin x x = x := by rw [imin]; split <;> rfl
        rw [this]
      rw [hmin]
      have hm := (minL_spec (xs := x :: xs) (by simp)).1
      simp only [from13_val (x :: xs) _ (by omega), fromOut, hr, hm, and_self, if_true]
      simp
  · simp [hr]
end Go.Pev.Pl
end
section
namespace Go.Pev.Pl
open Tok
noncomputable instance (n : Int) (xs : List Int) : Decidable (TI n xs) := Classical.propDecidable _
end Go.Pev.Pl
end
section
namespace Go.Pev.Pl
open Tok
end Go.Pev.Pl
end
section
namespace Go.Pev.Pl
open Tok
theorem stands18_val (n t u : Int) (ht : -9223372036854775808 ≤ t ∧ t ≤ 9223372036854775807) : stands18 (n, t, u, ()) = some (standsB n t u, ()) := by
  rw [stands18_eq, stands18_d, standsB]
  simp only [token18_val n t ht, ieq_dec]
  cases tokOf n t with
  | none => rfl
  | some x => cases x with
    | ver v =>
      by_cases h : v = u <;> simp [tokR, st, h]
    | arc p q =>
      by_cases h : q = u <;> simp [tokR, st, h]
end Go.Pev.Pl
end
section
namespace Go.Pev.Pl
open Tok
theorem tree_s2 (n : Int) (l : List Int) (i : Nat) (hi : i < l.length) (hl : l.length < 1073741824) (d5 d6 d7 d8 : Bool) (d9 d10 : Int) (d11 : Bool) (d12 d13 d14 d15 d16 : Int) (d17 : Bool) (d18 d19 d20 d21 d22 d23 d24 d25 d26 : Int) (d27 : Bool) :
    ∀ (m k cnt : Nat) (acc : List Int), k + m = l.length → acc.length ≤ k → m < cnt →
    iterO tree18_s2 cnt (n, l, (i : Int), acc, (k : Int), d5, d6, d7, d8, d9, d10, d11, d12, d13, d14, d15, d16, d17, d18, d19, d20, d21, d22, d23, d24, d25, d26, d27, ()) =
      some (.inl (n, (i : Int), acc ++ (List.range' k m).map (fun k => l.getD ((i + k) % l.length) 0), d5, d6, d7, d8, d9, d10, d11, d12, d13, d14, d15, d16, d17, d18, l, d19, d20, d21, d22, d23, d24, d25, d26, d27, ())) := by
  intro m
  induction m with
  | zero =>
    intro k cnt acc hk ha hc
    obtain ⟨cnt, rfl⟩ : ∃ c, cnt = c + 1 := ⟨cnt - 1, by omega⟩
    rw [iterO, tree18_s2, dlen_l, ilt_nat, decide_eq_false (by omega)]
    simp
  | succ m ih =>
    intro k cnt acc hk ha hc
    obtain ⟨cnt, rfl⟩ : ∃ c, cnt = c + 1 := ⟨cnt - 1, by omega⟩
    have hm : (i + k) % l.length < l.length := Nat.mod_lt _ (by omega)
    rw [iterO, tree18_s2, dlen_l, ilt_nat, decide_eq_true (by omega)]
    simp only []
    rw [wrap_add (by omega), rem_nat (by omega)]
    simp only [idx_l (0 : Int) hm, dget_l]
    rw [fits_l (by simp only [dlen_l, List.length_cons, List.length_nil]; omega), wrap_add1 (by omega)]
    simp only [dapp_l]
    rw [ih (k + 1) cnt _ (by omega) (by simp; omega) (by omega)]
    simp [List.range'_succ]
theorem tree_s1_at (n : Int) (l : List Int) (i : Nat) (hi : i < l.length) (h1 : 1 < l.length) (hl : l.length < 1073741824) (hr : ∀ x ∈ l, -9223372036854775808 ≤ x ∧ x ≤ 9223372036854775807) :
    tree18_s1 (n, l, false, (i : Int), ()) = if leafAt n l i then some (.inl (n, restAt l i, true, ((i + 1 : Nat) : Int), ())) else some (.inl (n, l, false, ((i + 1 : Nat) : Int), ())) := by
  have hmany : 4294967296 < many := by simp only [many]; omega
  have m1 : (i + 1) % l.length < l.length := Nat.mod_lt _ (by omega)
  have m2 : (i + 2) % l.length < l.length := Nat.mod_lt _ (by omega)
  have m0 : (i + l.length - 1) % l.length < l.length := Nat.mod_lt _ (by omega)
  have hin : ∀ {k : Nat}, k < l.length → l.getD k 0 ∈ l := fun {k} hk => by
    rw [List.getD_eq_getElem?_getD, List.getElem?_eq_getElem hk, Option.getD_some]; exact List.getElem_mem hk
  have w2 : IntKind.wrap .i64 ((i : Int) + 2) = ((i + 2 : Nat) : Int) := by rw [wrap_in (by omega)]; omega
  have w3 : IntKind.wrap .i64 ((i : Int) + (l.length : Int)) = ((i + l.length : Nat) : Int) := wrap_add (by omega)
  have w4 : IntKind.wrap .i64 (((i + l.length : Nat) : Int) - 1) = ((i + l.length - 1 : Nat) : Int) := wrap_sub1 (by omega)
  have f4 : ile (4 : Int) (l.length : Int) = decide (4 ≤ l.length) := by
    rw [ile_eq]
    by_cases h : 4 ≤ l.length
    · rw [decide_eq_true h, decide_eq_true (by omega)]
    · rw [decide_eq_false h, decide_eq_false (by omega)]
  rw [tree18_s1, dlen_l, ilt_nat, decide_eq_true hi]
  simp only [Bool.not_false, idx_l (0 : Int) hi]
  rw [wrap_add1 (by omega), w2, rem_nat (by omega), rem_nat (by omega)]
  simp only [idx_l (0 : Int) m1, idx_l (0 : Int) m2, dget_l, token18_val n _ (hr _ (hin hi)), f4, leafAt]
  by_cases h4 : 4 ≤ l.length
  · simp only [h4, decide_true, Bool.true_and]
    cases ht : tokOf n (l.getD i 0) with
    | none => rfl
    | some t =>
      cases t with
      | ver v => rfl
      | arc u v =>
        simp only [tokR, ieq_dec, arc18_val]
        by_cases c1 : l.getD ((i + 1) % l.length) 0 = v
        · simp only [c1, decide_true, Bool.true_and]
          by_cases c2 : l.getD ((i + 2) % l.length) 0 = arcT n v u
          · simp only [c2, decide_true, Bool.true_and, w3, w4]
            rw [rem_nat (by omega)]
            simp only [idx_l (0 : Int) m0, dget_l, stands18_val n _ u (hr _ (hin m0))]
            cases standsB n (l.getD ((i + l.length - 1) % l.length) 0) u
            · rfl
            · simp only [if_true, iterL_eq]
              have e := tree_s2 n l i hi hl false true true true v v true (arcT n v u) n v u (arcT n v u) true n (i : Int) (l.length : Int) ((i + l.length : Nat) : Int) ((i + l.length - 1 : Nat) : Int) (l.length : Int) (((i + l.length - 1) % l.length : Nat) : Int) (l.getD ((i + l.length - 1) % l.length) 0) u true (l.length - 3) 3 many [] (by omega) (by simp) (by omega)
              have e' : iterO tree18_s2 many (n, l, (i : Int), [], (3 : Int), _) = _ := e
              simp only [e', wrap_add1 (show i + 1 < 9223372036854775808 by omega)]
              rfl
          · simp only [c2, decide_false, Bool.false_and, Bool.false_eq_true, if_false]
        · simp only [c1, decide_false, Bool.false_and, Bool.false_eq_true, if_false]
  · simp only [h4, decide_false, Bool.false_and, Bool.false_eq_true, if_false]
theorem tree_s1 (n : Int) (l : List Int) (h1 : 1 < l.length) (hl : l.length < 1073741824) (hr : ∀ x ∈ l, -9223372036854775808 ≤ x ∧ x ≤ 9223372036854775807) :
    ∀ (m i cnt : Nat), i + m = l.length → m + 1 < cnt →
    (∃ k, k < l.length ∧ leafAt n l k = true ∧ iterO tree18_s1 cnt (n, l, false, (i : Int), ()) = some (.inl (n, restAt l k, true, ()))) ∨
    ((∀ k, i ≤ k → k < l.length → leafAt n l k = false) ∧ iterO tree18_s1 cnt (n, l, false, (i : Int), ()) = some (.inl (n, l, false, ()))) := by
  intro m
  induction m with
  | zero =>
    intro i cnt hi hc
    obtain ⟨cnt, rfl⟩ : ∃ c, cnt = c + 1 := ⟨cnt - 1, by omega⟩
    right
    refine ⟨fun k q1 q2 => by omega, ?_⟩
    rw [iterO, tree18_s1, dlen_l, ilt_nat, decide_eq_false (by omega)]
  | succ m ih =>
    intro i cnt hi hc
    obtain ⟨cnt, rfl⟩ : ∃ c, cnt = c + 1 := ⟨cnt - 1, by omega⟩
    rw [iterO, tree_s1_at n l i (by omega) h1 hl hr]
    cases hlf : leafAt n l i
    · simp only [Bool.false_eq_true, if_false]
      rcases ih (i + 1) cnt (by omega) (by omega) with h | ⟨h, e⟩
      · exact .inl h
      · refine .inr ⟨fun k q1 q2 => ?_, e⟩
        by_cases ek : k = i
        · rw [ek]; exact hlf
        · exact h k (by omega) q2
    · simp only [if_true]
      obtain ⟨cnt, rfl⟩ : ∃ c, cnt = c + 1 := ⟨cnt - 1, by omega⟩
      refine .inl ⟨i, by omega, hlf, ?_⟩
      rw [iterO, tree18_s1]
      cases ilt ((i + 1 : Nat) : Int) (dlen (restAt l i)) <;> rfl
theorem tree_s0 (n : Int) : ∀ (m : Nat) (l : List Int) (cnt : Nat), l.length = m → l.length < 1073741824 → (∀ x ∈ l, -9223372036854775808 ≤ x ∧ x ≤ 9223372036854775807) → l.Nodup → m < cnt →
    (¬ TI n l ∧ iterO tree18_s0 cnt (n, l, ()) = some (.inl (false, ()))) ∨
    ∃ l', iterO tree18_s0 cnt (n, l, ()) = some (.inr (.inl (n, l', ()))) ∧ l'.length ≤ 1 ∧ (TI n l ↔ TI n l') := by
  intro m
  induction m using Nat.strongRecOn with
  | _ m ih =>
  intro l cnt hm hl hr hn hc
  have hmany : 4294967296 < many := by simp only [many]; omega
  obtain ⟨cnt, rfl⟩ : ∃ c, cnt = c + 1 := ⟨cnt - 1, by omega⟩
  rw [iterO, tree18_s0, dlen_l, ilt_eq]
  by_cases h1 : 1 < l.length
  · rw [decide_eq_true (by omega)]
    simp only [iterL_eq]
    rcases tree_s1 n l h1 hl hr l.length 0 many (by omega) (by omega) with ⟨k, k1, k2, e⟩ | ⟨k1, e⟩
    · have e' : iterO tree18_s1 many (n, l, false, (0 : Int), ()) = _ := e
      simp only [e', Bool.not_true]
      have hred := leafAt_red k1 k2
      have hiff := red_TI hred hn
      have hlen : (restAt l k).length = l.length - 3 := by simp [restAt]
      rcases ih (l.length - 3) (by omega) (restAt l k) cnt hlen (by omega) (fun x hx => hr x (restAt_mem k1 x hx)) (red_nodup hred hn) (by omega) with ⟨q1, q2⟩ | ⟨l', q1, q2, q3⟩
      · exact .inl ⟨fun h => q1 (hiff.1 h), q2⟩
      · exact .inr ⟨l', q1, q2, hiff.trans q3⟩
    · have e' : iterO tree18_s1 many (n, l, false, (0 : Int), ()) = _ := e
      simp only [e', Bool.not_false]
      refine .inl ⟨fun h => ?_, by trivial⟩
      obtain ⟨l', hl'⟩ := TI_red h h1
      obtain ⟨i, i1, i2⟩ := red_leafAt hl'
      rw [k1 i (by omega) i1] at i2
      cases i2
  · rw [decide_eq_false (by omega)]
    exact .inr ⟨l, rfl, by omega, Iff.rfl⟩
theorem tree18_val (n : Int) (l : List Int) (hl : l.length < 1073741824) (hr : ∀ x ∈ l, -9223372036854775808 ≤ x ∧ x ≤ 9223372036854775807) (hn : l.Nodup) : tree18 (n, l, ()) = some (decide (TI n l), ()) := by
  have hmany : 4294967296 < many := by simp only [many]; omega
  rw [tree18_eq, tree18_d, fits_l (by simp only [dlen_l, List.length_nil]; omega)]
  simp only [dapp_l, List.nil_append, iterL_eq]
  rcases tree_s0 n l.length l many rfl hl hr hn (by omega) with ⟨q1, q2⟩ | ⟨l', q1, q2, q3⟩
  · rw [q2, decide_eq_false q1]
  · rw [q1]
    simp only [dlen_l, ieq_dec]
    match l', q2, q3 with
    | [], _, q3 =>
      have : ¬ TI n l := fun h => TI_nil n (q3.1 h)
      simp [this]
    | [t], _, q3 =>
      rw [TI_one] at q3
      have i0 : idx [t] (0 : Int) = some t := by rw [idx_zero]; rfl
      have d0 : dget [t] 0 (0 : Int) = t := rfl
      rw [decide_eq_true (by simp)]
      simp only [i0, d0, in18_val]
      by_cases h : In n t
      · rw [decide_eq_true h, decide_eq_true (q3.2 h)]
      · rw [decide_eq_false h, decide_eq_false (fun h2 => h (q3.1 h2))]
end Go.Pev.Pl
end
section
namespace Go.Pev.Pl
open Tok
noncomputable instance (n : Int) (rings : List (List Int)) : Decidable (RF n rings) := Classical.propDecidable _
noncomputable instance (n : Int) (xs : List Int) : Decidable (RG n xs) := Classical.propDecidable _
end Go.Pev.Pl
end
section
namespace Go.Pev.Pl
open Tok
theorem right18_inner (N : Nat) (hN : N ≤ 64) (l : List Int) (hl : l.length < 1073741824) (h0 : ∀ t ∈ l, 0 ≤ t) (d1 : List (List Int)) (d3 d5 : Int) (d8 : List Int) (d9 : Int) (d10 : Bool) (d11 : Int) (d12 : List Int) (d13 d14 : Bool) (d15 d16 : List Int) (d17 : List (List Int)) (d18 : List Int) (d19 : List (List Int)) (d20 d21 : Bool) (d22 : List Int) (d23 d24 : Int) (d25 : Bool) :
    ∀ (m k cnt : Nat) (met : List Bool) (seen : List Int), k + m = l.length → MB N met seen → (l.drop k).Nodup → seen.length + m < 4611686018427387904 → m < cnt →
    ((∀ t ∈ l.drop k, t < (N : Int) → t ∉ seen) ∧ ∃ met', iterO right18_s1 cnt ((N : Int), d1, met, d3, (seen.length : Int), d5, l, (k : Int), d8, d9, d10, d11, d12, d13, d14, d15, d16, d17, d18, d19, d20, d21, d22, d23, d24, d25, ()) =
        some (.inr (.inl ((N : Int), d1, met', d3, ((seen ++ (l.drop k).filter (fun t => decide (t < (N : Int)))).length : Int), d5, d8, d9, d10, d11, d12, d13, d14, d15, d16, d17, d18, d19, d20, d21, d22, d23, d24, d25, ()))) ∧ MB N met' (seen ++ (l.drop k).filter (fun t => decide (t < (N : Int))))) ∨
    (¬ (∀ t ∈ l.drop k, t < (N : Int) → t ∉ seen) ∧ iterO right18_s1 cnt ((N : Int), d1, met, d3, (seen.length : Int), d5, l, (k : Int), d8, d9, d10, d11, d12, d13, d14, d15, d16, d17, d18, d19, d20, d21, d22, d23, d24, d25, ()) = some (.inl (false, ()))) := by
  intro m
  induction m with
  | zero =>
    intro k cnt met seen hk hm hn hsl hc
    obtain ⟨cnt, rfl⟩ : ∃ c, cnt = c + 1 := ⟨cnt - 1, by omega⟩
    have e : l.drop k = [] := List.drop_of_length_le (by omega)
    rw [e]
    refine .inl ⟨by simp, met, ?_, by simpa using hm⟩
    rw [iterO, right18_s1, dlen_l, ilt_nat, decide_eq_false (by omega)]
    simp
  | succ m ih =>
    intro k cnt met seen hk hm hn hsl hc
    obtain ⟨cnt, rfl⟩ : ∃ c, cnt = c + 1 := ⟨cnt - 1, by omega⟩
    have hk' : k < l.length := by omega
    have e : l.drop k = l.getD k 0 :: l.drop (k + 1) := by
      rw [List.drop_eq_getElem_cons hk', List.getD_eq_getElem?_getD, List.getElem?_eq_getElem hk', Option.getD_some]
    have hpos : 0 ≤ l.getD k 0 := h0 _ (by rw [List.getD_eq_getElem?_getD, List.getElem?_eq_getElem hk', Option.getD_some]; exact List.getElem_mem hk')
    rw [iterO, right18_s1, dlen_l, ilt_nat, decide_eq_true hk']
    simp only [idx_l (0 : Int) hk']
    rw [e] at hn ⊢
    generalize l.getD k 0 = t at *
    rw [List.nodup_cons] at hn
    rw [wrap_add1 (show k + 1 < 9223372036854775808 by omega), ilt_eq]
    by_cases ht : t < (N : Int)
    · rw [decide_eq_true ht]
      obtain ⟨q, rfl⟩ := Int.eq_ofNat_of_zero_le hpos
      have hq : q < met.length := by rw [hm.1]; omega
      have hmq := hm.2 q (by omega)
      simp only [idx_l false hq, dget_l, dset_l, hmq]
      by_cases hs : (q : Int) ∈ seen
      · rw [decide_eq_true hs]
        exact .inr ⟨fun h => h (q : Int) (by simp) ht hs, rfl⟩
      · rw [decide_eq_false hs]
        simp only []
        have hm' : MB N (met.set q true) (seen ++ [(q : Int)]) := by
          refine ⟨by simp [hm.1], fun y hy => ?_⟩
          by_cases e2 : y = q
          · subst e2
            simp [List.getD_eq_getElem?_getD, hq]
          · have h3 := hm.2 y hy
            have e3 : ¬ (y : Int) = (q : Int) := by omega
            rw [List.getD_eq_getElem?_getD, List.getElem?_set_ne (Ne.symm e2), ← List.getD_eq_getElem?_getD, h3]
            simp [e3]
        have hlen : (((seen.length : Nat) : Int)) = ((seen.length : Nat) : Int) := rfl
        have hw : IntKind.wrap .i64 ((seen.length : Int) + 1) = ((seen ++ [(q : Int)]).length : Int) := by
          rw [wrap_in (by omega)]; simp
        rw [hw]
        have hiff : (∀ y ∈ (q : Int) :: l.drop (k + 1), y < (N : Int) → y ∉ seen) ↔ ∀ y ∈ l.drop (k + 1), y < (N : Int) → y ∉ seen ++ [(q : Int)] := by
          constructor
          · intro h y hy hyn hm2
            simp only [List.mem_append, List.mem_singleton] at hm2
            rcases hm2 with h2 | rfl
            · exact h y (List.mem_cons_of_mem _ hy) hyn h2
            · exact hn.1 hy
          · intro h y hy hyn hm2
            rcases List.mem_cons.1 hy with rfl | hy
            · exact hs hm2
            · exact h y hy hyn (by simp [hm2])
        rcases ih (k + 1) cnt _ _ (by omega) hm' hn.2 (by simp; omega) (by omega) with ⟨q1, met', q2, q3⟩ | ⟨q1, q2⟩
        · refine .inl ⟨hiff.2 q1, met', ?_, ?_⟩
          · rw [List.filter_cons_of_pos (by simpa using ht)]
            rw [q2, List.append_assoc]
            rfl
          · rw [List.filter_cons_of_pos (by simpa using ht)]
            simpa using q3
        · exact .inr ⟨fun h => q1 (hiff.1 h), q2⟩
    · rw [decide_eq_false ht]
      simp only []
      have hiff : (∀ y ∈ t :: l.drop (k + 1), y < (N : Int) → y ∉ seen) ↔ ∀ y ∈ l.drop (k + 1), y < (N : Int) → y ∉ seen := by
        constructor
        · intro h y hy; exact h y (List.mem_cons_of_mem _ hy)
        · intro h y hy hyn
          rcases List.mem_cons.1 hy with rfl | hy
          · exact absurd hyn ht
          · exact h y hy hyn
      rcases ih (k + 1) cnt _ _ (by omega) hm hn.2 (by omega) (by omega) with ⟨q1, met', q2, q3⟩ | ⟨q1, q2⟩
      · refine .inl ⟨hiff.2 q1, met', ?_, ?_⟩
        · rw [List.filter_cons_of_neg (by simpa using ht)]
          exact q2
        · rw [List.filter_cons_of_neg (by simpa using ht)]
          exact q3
      · exact .inr ⟨fun h => q1 (hiff.1 h), q2⟩
theorem right18_s0_loop (N : Nat) (hN1 : 1 ≤ N) (hN : N ≤ 64) (rings : List (List Int)) (hlen : rings.length ≤ 64) (hr : ∀ l ∈ rings, l.length < 9223372036854775808 ∧ ∀ x ∈ l, -9223372036854775808 ≤ x ∧ x ≤ 9223372036854775807) :
    ∀ (ls : List (List Int)) (i cnt : Nat) (met : List Bool) (last : Int) (seen : List Int), rings.drop i = ls → i ≤ rings.length → MB N met seen → seen.length ≤ i * 1073741824 → ls.length < cnt →
    (okR (N : Int) seen last ls ∧ ∃ met' seen', iterO right18_s0 cnt ((N : Int), rings, met, last, (seen.length : Int), (i : Int), ()) = some (.inr (.inl ((N : Int), rings, (seen'.length : Int), ()))) ∧ MB N met' seen' ∧ seen' = seen ++ ls.flatten.filter (fun t => decide (t < (N : Int)))) ∨
    (¬ okR (N : Int) seen last ls ∧ iterO right18_s0 cnt ((N : Int), rings, met, last, (seen.length : Int), (i : Int), ()) = some (.inl (false, ()))) := by
  have hmany : 4294967296 < many := by simp only [many]; omega
  intro ls
  induction ls with
  | nil =>
    intro i cnt met last seen hd hi hm hsl hc
    obtain ⟨cnt, rfl⟩ : ∃ c, cnt = c + 1 := ⟨cnt - 1, by simp at hc; omega⟩
    have : rings.length ≤ i := by simpa using hd
    refine .inl ⟨trivial, met, seen, ?_, hm, by simp⟩
    rw [iterO, right18_s0, dlen_l, ilt_nat, decide_eq_false (by omega)]
  | cons l ls ih =>
    intro i cnt met last seen hd hi hm hsl hc
    simp only [List.length_cons] at hc
    obtain ⟨cnt, rfl⟩ : ∃ c, cnt = c + 1 := ⟨cnt - 1, by omega⟩
    have hi' : i < rings.length := by
      refine Classical.byContradiction fun h => ?_
      rw [List.drop_of_length_le (by omega)] at hd
      cases hd
    rw [List.drop_eq_getElem_cons hi'] at hd
    simp only [List.cons.injEq] at hd
    obtain ⟨hd1, hd2⟩ := hd
    have hx : rings[i]? = some l := by rw [List.getElem?_eq_getElem hi', hd1]
    have hmem : l ∈ rings := List.mem_of_getElem? hx
    obtain ⟨hl, hlr⟩ := hr l hmem
    rw [iterO, right18_s0, dlen_l, ilt_nat, decide_eq_true hi', okR]
    simp only [idx_some hx, right13_val]
    by_cases c2 : Rt l
    · rw [decide_eq_true c2]
      have hl : l.length < 1073741824 := by have := c2.1; omega
      simp only [Bool.not_true]
      cases l with
      | nil =>
        rw [dlen_l, ieq_dec, decide_eq_true (by simp)]
        exact .inr ⟨fun h => h.1.2.1 rfl, rfl⟩
      | cons x tl =>
        rw [dlen_l, ieq_dec, decide_eq_false (by simp only [List.length_cons]; omega)]
        simp only [tree18_val (N : Int) (x :: tl) hl hlr c2.2.2]
        by_cases c4 : TI (N : Int) (x :: tl)
        · rw [decide_eq_true c4]
          simp only [Bool.not_true, plain13_val]
          rw [lists14_val _ _ (by simp) (by
            intro y hy
            simp only [List.mem_singleton] at hy
            subst hy
            obtain ⟨a, b, q1, q2⟩ := plain_nonempty c2 (by simp)
            have := congrArg List.length q1
            rw [q2]
            simp only [List.length_cons, List.length_append] at this hl ⊢
            omega)]
          have hps := plain_self c2 (by simp)
          have hps2 : ([plain (x :: tl)] = [x :: tl]) ↔ minL (x :: tl) = x := by simpa using hps
          by_cases c3 : minL (x :: tl) = x
          · rw [decide_eq_true (hps2.2 c3)]
            have i0 : idx (x :: tl) (0 : Int) = some x := by rw [idx_zero]; rfl
            simp only [Bool.not_true, i0, List.headD_cons, ile_eq]
            by_cases c1 : x ≤ last
            · rw [decide_eq_true c1]
              exact .inr ⟨fun h => by omega, rfl⟩
            · rw [decide_eq_false c1]
              simp only [iterL_eq]
              have hRG : RG (N : Int) (x :: tl) := ⟨c2, by simp, c3, c4⟩
              rcases right18_inner N hN (x :: tl) hl (fun t ht => (c2.2.1 t ht).1) rings x (i : Int) (x :: tl) ((x :: tl).length : Int) false (N : Int) (x :: tl) true false (x :: tl) (plain (x :: tl)) [plain (x :: tl)] (x :: tl) [x :: tl] true false (x :: tl) x last false (x :: tl).length 0 many met seen (by omega) hm (by rw [List.drop_zero]; exact c2.2.2) (by omega) (by omega) with ⟨q1, met', q2, q3⟩ | ⟨q1, q2⟩
              · rw [List.drop_zero] at q1 q3 q2
                have q2' : iterO right18_s1 many ((N : Int), rings, met, x, (seen.length : Int), (i : Int), x :: tl, (0 : Int), x :: tl, ((x :: tl).length : Int), false, (N : Int), x :: tl, true, false, x :: tl, plain (x :: tl), [plain (x :: tl)], x :: tl, [x :: tl], true, false, x :: tl, x, last, false, ()) = _ := q2
                simp only [q2', wrap_add1 (show i + 1 < 9223372036854775808 by omega)]
                have hfl : ((x :: tl).filter (fun t => decide (t < (N : Int)))).length ≤ (x :: tl).length := List.length_filter_le _ _
                rcases ih (i + 1) cnt met' x (seen ++ (x :: tl).filter (fun t => decide (t < (N : Int)))) hd2 (by omega) q3 (by rw [List.length_append]; omega) (by omega) with ⟨p1, met2, seen2, p2, p3, p4⟩ | ⟨p1, p2⟩
                · refine .inl ⟨⟨hRG, by omega, q1, p1⟩, met2, seen2, p2, p3, ?_⟩
                  rw [p4, List.flatten_cons, List.filter_append, List.append_assoc]
                · exact .inr ⟨fun h => p1 h.2.2.2, p2⟩
              · rw [List.drop_zero] at q1
                have q2' : iterO right18_s1 many ((N : Int), rings, met, x, (seen.length : Int), (i : Int), x :: tl, (0 : Int), x :: tl, ((x :: tl).length : Int), false, (N : Int), x :: tl, true, false, x :: tl, plain (x :: tl), [plain (x :: tl)], x :: tl, [x :: tl], true, false, x :: tl, x, last, false, ()) = _ := q2
                simp only [q2']
                exact .inr ⟨fun h => q1 h.2.2.1, by trivial⟩
          · rw [decide_eq_false (fun h => c3 (hps2.1 h))]
            exact .inr ⟨fun h => c3 h.1.2.2.1, rfl⟩
        · rw [decide_eq_false c4]
          exact .inr ⟨fun h => c4 h.1.2.2.2, rfl⟩
    · rw [decide_eq_false c2]
      exact .inr ⟨fun h => c2 h.1.1, rfl⟩
theorem right18_val (n : Int) (rings : List (List Int)) (hlen : rings.length < 1073741824) (hr : ∀ l ∈ rings, l.length < 9223372036854775808 ∧ ∀ x ∈ l, -9223372036854775808 ≤ x ∧ x ≤ 9223372036854775807) :
    right18 ((n, (rings, ())), ()) = some (decide (RF n rings), ()) := by
  have hmany : 4294967296 < many := by simp only [many]; omega
  rw [right18_eq, right18_d]
  simp only [ilt_eq, dlen_l]
  by_cases h1 : n < 1
  · rw [decide_eq_true h1, decide_eq_false (show ¬ RF n rings from fun h => by have := h.1.1; omega)]
  · rw [decide_eq_false h1]
    simp only []
    by_cases h2 : 64 < n
    · rw [decide_eq_true h2, decide_eq_false (show ¬ RF n rings from fun h => by have := h.1.2; omega)]
    · rw [decide_eq_false h2]
      simp only []
      by_cases h3 : n < (rings.length : Int)
      · rw [decide_eq_true h3, decide_eq_false (show ¬ RF n rings from fun h => by
          have := okR_len (by omega) h.2.1 (by omega) (by omega)
          omega)]
      · rw [decide_eq_false h3]
        obtain ⟨N, rfl⟩ := Int.eq_ofNat_of_zero_le (show 0 ≤ n by omega)
        have f1 : fitsI (N : Int) = true := (fitsI_iff _).2 (by omega)
        have f2 : ile (N : Int) (N : Int) = true := by rw [ile_eq]; simp
        simp only [f1, f2, Bool.and_self, Bool.and_true, iterL_eq]
        have hMB : MB N (drep (dnat (N : Int)) false) [] := by
          refine ⟨by simp [drep, dnat_l], fun k hk => ?_⟩
          simp [drep, dnat_l, hk]
        rcases right18_s0_loop N (by omega) (by omega) rings (by omega) hr rings 0 many _ (-1) [] (by simp) (by omega) hMB (by simp) (by omega) with ⟨p1, met, seen, p2, p3, p4⟩ | ⟨p1, p2⟩
        · have p2' : iterO right18_s0 many ((N : Int), rings, drep (dnat (N : Int)) false, -1, (0 : Int), (0 : Int), ()) = _ := p2
          simp only [p2', ieq_dec]
          obtain ⟨q1, q2⟩ := okR_nodup p1 (by simp)
          rw [← p4] at q1
          have hsub : ∀ x ∈ seen, x ∈ (List.range N).map (fun (k : Nat) => (k : Int)) := by
            intro x hx
            rw [p4] at hx
            simp only [List.nil_append, List.mem_filter, List.mem_flatten, decide_eq_true_eq] at hx
            obtain ⟨⟨l, hl, hxl⟩, hxn⟩ := hx
            have := ((q2 l hl).1.2.1 x hxl).1
            rw [List.mem_map]
            exact ⟨x.toNat, by rw [List.mem_range]; omega, by omega⟩
          have hv : ∀ v, v ∈ seen ↔ (v < (N : Int) ∧ v ∈ rings.flatten) := fun v => by rw [p4, List.nil_append, List.mem_filter, decide_eq_true_eq, and_comm]
          have hS : Sz (N : Int) := ⟨by omega, by omega⟩
          by_cases hc : (seen.length : Int) = (N : Int)
          · rw [decide_eq_true hc, decide_eq_true]
            refine ⟨hS, p1, fun v v1 v2 => ?_⟩
            have := nodup_sub_eq q1 hsub (by simp; omega) v (by rw [List.mem_map]; exact ⟨v.toNat, by rw [List.mem_range]; omega, by omega⟩)
            exact ((hv v).1 this).2
          · rw [decide_eq_false hc, decide_eq_false]
            rintro ⟨_, _, h⟩
            have a1 := nodup_sub_len q1 hsub
            have hrn : ((List.range N).map (fun (k : Nat) => (k : Int))).Nodup := by
              rw [List.Nodup, List.pairwise_map]
              exact List.nodup_range.imp fun h e => h (by omega)
            have a2 := nodup_sub_len (a := (List.range N).map (fun (k : Nat) => (k : Int))) (b := seen) hrn fun x hx => by
              rw [List.mem_map] at hx
              obtain ⟨k, hk, rfl⟩ := hx
              rw [List.mem_range] at hk
              exact (hv _).2 ⟨by omega, h (k : Int) (by omega) (by omega)⟩
            simp only [List.length_map, List.length_range] at a1 a2
            omega
        · have p2' : iterO right18_s0 many ((N : Int), rings, drep (dnat (N : Int)) false, -1, (0 : Int), (0 : Int), ()) = _ := p2
          simp only [p2']
          rw [decide_eq_false (fun h => p1 h.2.1)]
end Go.Pev.Pl
end
section
namespace Go.Pev.Pl
open Tok
theorem place18_val (n : Int) (rings : List (List Int)) (v : Int) (hlen : rings.length < 1073741824) (hr : ∀ l ∈ rings, l.length < 9223372036854775808) : place18 ((n, (rings, ())), v, ()) = some (plc rings v, ()) := by
  rw [place18_eq, place18_d]
  have e := findL (step := place18_s0) (fun i => (v, n, rings, (i : Int), ())) rings (fun l => decide (v ∈ l)) (fun i => .inl ((i : Int), ())) (.inr (.inl ())) (by omega)
    (fun i l hi hx => by
      have hl := hr l (List.mem_of_getElem? hx)
      rw [place18_s0, dlen_l, ilt_nat, decide_eq_true hi]
      simp only [idx_some hx, place13_val l v (by omega)]
      rw [wrap_add1 (by omega), ile_eq]
      by_cases h : v ∈ l
      · obtain ⟨k, e, _⟩ := pos_in h
        rw [e, decide_eq_true (by omega), decide_eq_true h]; rfl
      · rw [pos_out h, decide_eq_false (by omega), decide_eq_false h]; rfl)
    (by rw [place18_s0, dlen_l, ilt_nat, decide_eq_false (by omega)])
  have e' : iterL place18_s0 many (v, n, rings, (0 : Int), ()) = _ := e
  simp only [e', plc]
  cases rings.any (fun l => decide (v ∈ l)) <;> rfl
end Go.Pev.Pl
end
section
namespace Go.Pev.Pl
open Tok
theorem put18_val (rest : List (List Int)) (r : List Int) (hlen : rest.length < 1073741824) (hne : ∀ l ∈ rest, l ≠ []) (hp : plain r ≠ []) : put18 (rest, r, ()) = some (putL rest (plain r), ()) := by
  rw [put18_eq, put18_d]
  simp only [plain13_val]
  generalize plain r = p at *
  have e := findL (step := put18_s0) (fun i => (rest, p, (i : Int), ())) rest (fun x => !decide (hd x < hd p)) (fun i => .inl (rest, p, (i : Int), ())) (.inl (rest, p, (rest.length : Int), ())) (by omega)
    (fun i x hi hx => by
      rw [put18_s0, dlen_l, ilt_nat, decide_eq_true hi]
      simp only [idx_some hx, idx0_hd (hne x (List.mem_of_getElem? hx)), idx0_hd hp, dget0_hd, ilt_eq]
      rw [wrap_add1 (by omega)]
      by_cases h : hd x < hd p
      · rw [decide_eq_true h]; rfl
      · rw [decide_eq_false h]; rfl)
    (by rw [put18_s0, dlen_l, ilt_nat, decide_eq_false (by omega)])
  have e' : iterL put18_s0 many (rest, p, (0 : Int), ()) = _ := e
  have hk : (if rest.any (fun x => !decide (hd x < hd p)) then (.inl (rest, p, ((rest.findIdx fun x => !decide (hd x < hd p) : Nat) : Int), ()) : (List (List Int) × List Int × Int × Unit) ⊕ Unit) else .inl (rest, p, (rest.length : Int), ())) = .inl (rest, p, ((rest.findIdx fun x => !decide (hd x < hd p) : Nat) : Int), ()) := by
    split
    · rfl
    · rename_i h
      rw [List.findIdx_eq_length.2 fun x hx => by
        refine Classical.byContradiction fun hc => h (List.any_eq_true.2 ⟨x, hx, by simpa using hc⟩)]
  rw [e', hk]
  have hle : (rest.findIdx fun x => !decide (hd x < hd p)) ≤ rest.length := List.findIdx_le_length
  rw [putL]
  generalize (rest.findIdx fun x => !decide (hd x < hd p)) = k at *
  simp only [subl_0 hle, subl_end hle]
  rw [fits_l (by simp only [dlen_l, List.length_nil, List.length_take]; omega)]
  simp only []
  rw [fits_l (by simp only [dlen_l, dapp_l, List.length_append, List.length_cons, List.length_nil, List.length_take]; omega)]
  simp only []
  rw [fits_l (by simp only [dlen_l, dapp_l, List.length_append, List.length_cons, List.length_nil, List.length_take, List.length_drop]; omega)]
  simp only [dapp_l, List.nil_append, List.append_assoc, List.singleton_append]
theorem without18_val (l : List (List Int)) (i : Nat) (hi : i < l.length) (hlen : l.length < 1073741824) : without18 (l, (i : Int), ()) = some (l.eraseIdx i, ()) := by
  rw [without18_eq, without18_d]
  rw [wrap_add1 (by omega)]
  simp only [subl_0 (Nat.le_of_lt hi), subl_end (show i + 1 ≤ l.length by omega)]
  rw [fits_l (by simp only [dlen_l, List.length_nil, List.length_take]; omega)]
  simp only []
  rw [fits_l (by simp only [dlen_l, dapp_l, List.length_append, List.length_nil, List.length_take, List.length_drop]; omega)]
  simp only [dapp_l, List.nil_append, List.eraseIdx_eq_take_drop_succ]
end Go.Pev.Pl
end
section
namespace Go.Pev.Pl
open Tok
end Go.Pev.Pl
end
section
namespace Go.Pev.Pl
open Tok
end Go.Pev.Pl
end
section
namespace Go.Pev.Pl
open Go.RowKit Tok
end Go.Pev.Pl
end
section
namespace Go.Pev.Pl
open Tok
end Go.Pev.Pl
end
section
namespace Go.Pev.Pl
open Tok
set_option linter.unusedSimpArgs false
theorem link_there2 {n : Int} {rings : List (List Int)} {u v : Int} (h : FR n rings) (iu : In n u) (iv : In n v) (hp : plc rings u = plc rings v) :
    tlink ((n, (rings, ())), u, v, ()) = some (n, rings, 5, ()) ∧ link18 ((n, (rings, ())), u, v, ()) = some (n, rings, 5, ()) := by
  have hD := h.dom
  have hRF := RF_iff.2 h
  constructor
  · rw [tlink_eq, tlink_d]
    simp only [asked_val n rings u v hD, hRF, iu, iv, and_self, if_true, ieq_dec, tplace_val n rings _ hD.1 (fun l hl => (hD.2 l hl).1), hp, decide_true, Bool.not_true]
  · rw [link18_eq, link18_d]
    simp only [right18_val n rings hD.1 hD.2, hRF, in18_val, iu, iv, decide_true, Bool.not_true, place18_val n rings _ hD.1 (fun l hl => (hD.2 l hl).1), ieq_dec, hp]
theorem link_ok2 {n : Int} {rings : List (List Int)} {u v : Int} {i j : Nat} {A B : List Int} (h : FR n rings) (iu : In n u) (iv : In n v) (hi : rings[i]? = some A) (hj : rings[j]? = some B) (hu : u ∈ A) (hv : v ∈ B) (hij : i ≠ j) :
    ∃ zs rest, tlink ((n, (rings, ())), u, v, ()) = some (n, zs, 0, ()) ∧ link18 ((n, (rings, ())), u, v, ()) = some (n, zs, 0, ()) ∧ FR n zs ∧ rings.Perm (A :: B :: rest) ∧ zs.Perm (plain (linkAll n A B u v) :: rest) ∧ Dis n A B := by
  have hD := h.dom
  have hRF := RF_iff.2 h
  have rA := h.rg A (List.mem_of_getElem? hi)
  have rB := h.rg B (List.mem_of_getElem? hj)
  have hil := (List.getElem?_eq_some_iff.1 hi).1
  have hjl := (List.getElem?_eq_some_iff.1 hj).1
  have pu : plc rings u = (i : Int) := h.plc_eq hi iu.2.2.2 hu
  have pv : plc rings v = (j : Int) := h.plc_eq hj iv.2.2.2 hv
  have hperm : rings.Perm (A :: B :: (rings.eraseIdx (max i j)).eraseIdx (min i j)) := by
    rcases Nat.lt_or_gt_of_ne hij with g | g
    · rw [Nat.max_eq_right (by omega), Nat.min_eq_left (by omega)]
      exact erase2_perm g hi hj
    · rw [Nat.max_eq_left (by omega), Nat.min_eq_right (by omega)]
      exact (erase2_perm g hj hi).trans (List.Perm.swap _ _ _)
  have hdis : Dis n A B := by
    have := dis_perm hperm h.dis
    rw [List.pairwise_cons] at this
    exact this.1 B (by simp)
  obtain ⟨l1, l2, l3, huv, ho⟩ := link_ring rA.2.2.2 rB.2.2.2 hu hv iu iv hdis
  obtain ⟨hRG, hrot⟩ := RG_plain l1
  have hall : linkAll n A B u v = u :: arcT n u v :: (rotAt B v ++ arcT n v u :: (rotAt A u).tail) := rfl
  have lA : (rotAt A u).length ≤ 1000 := by rw [← (rotAt_irot hu).perm.length_eq]; exact rA.1.1
  have lB : (rotAt B v).length ≤ 1000 := by rw [← (rotAt_irot hv).perm.length_eq]; exact rB.1.1
  have hsub : ((rings.eraseIdx (max i j)).eraseIdx (min i j)).Sublist rings := (List.eraseIdx_sublist _ _).trans (List.eraseIdx_sublist _ _)
  have hw1 : without18 (rings, ((max i j : Nat) : Int), ()) = some (rings.eraseIdx (max i j), ()) := without18_val _ _ (by omega) hD.1
  have hel : (rings.eraseIdx (max i j)).length = rings.length - 1 := by rw [List.length_eraseIdx]; rw [if_pos (by omega)]
  have hw2 : without18 (rings.eraseIdx (max i j), ((min i j : Nat) : Int), ()) = some ((rings.eraseIdx (max i j)).eraseIdx (min i j), ()) := without18_val _ _ (by omega) (by have := hD.1; omega)
  have hdrop : dropAt (fun k => decide ((k : Int) ∈ [(i : Int), (j : Int)])) 0 rings = (rings.eraseIdx (max i j)).eraseIdx (min i j) := by
    rcases Nat.lt_or_gt_of_ne hij with g | g
    · rw [Nat.max_eq_right (by omega), Nat.min_eq_left (by omega)]
      exact dropAt_two _ i j g rings 0 (by omega) fun k _ => decide_eq_decide.2 (by simp only [List.mem_cons, List.not_mem_nil, or_false]; omega)
    · rw [Nat.max_eq_left (by omega), Nat.min_eq_right (by omega)]
      exact dropAt_two _ j i g rings 0 (by omega) fun k _ => decide_eq_decide.2 (by simp only [List.mem_cons, List.not_mem_nil, or_false]; omega)
  have hrl : ((rings.eraseIdx (max i j)).eraseIdx (min i j)).length ≤ rings.length := hsub.length_le
  generalize (rings.eraseIdx (max i j)).eraseIdx (min i j) = rest at *
  have hupr : rest.Pairwise (fun a b => hd a < hd b) := h.up.sublist hsub
  have hner : ∀ l ∈ rest, l ≠ [] := fun l hl => (h.rg l (hsub.subset hl)).2.1
  have hdd := dis_perm hperm h.dis
  rw [List.pairwise_cons, List.pairwise_cons] at hdd
  have hheads : ∀ x ∈ rest, hd x ≠ hd (plain (linkAll n A B u v)) := by
    intro x hx e
    have g1 := RG_head hRG
    have g2 := (l3 _ g1.2.2.2).1 (hrot.perm.mem_iff.2 (hd_mem hRG.2.1))
    have g3 : hd (plain (linkAll n A B u v)) ∈ x := e ▸ hd_mem (hner x hx)
    rcases g2 with g | g
    · exact hdd.1 x (by simp [hx]) _ g g1.2.2.2 g3
    · exact hdd.2.1 x hx _ g g1.2.2.2 g3
  have hup := putL_up hupr hheads
  have hpz := putL_perm rest (plain (linkAll n A B u v))
  refine ⟨putL rest (plain (linkAll n A B u v)), rest, ?_, ?_, FR_link h hperm hRG (fun t ht => by rw [← hrot.perm.mem_iff]; exact l3 t ht) hpz hup, hperm, hpz, hdis⟩
  · obtain ⟨ys, y1, y2, y3⟩ := twith_val n rings [(i : Int), (j : Int)] [linkAll n A B u v] hD.1 (by simp) (by simp) (fun l hl => (h.rg l hl).2.1) (by simp; exact hRG.2.1)
    have hys : ys = putL rest (plain (linkAll n A B u v)) := by
      refine sorted_same hup (y2.trans ?_) y3
      rw [hdrop]
      exact (List.perm_append_comm (l₁ := rest) (l₂ := [plain (linkAll n A B u v)])).trans hpz.symm
    rw [hys] at y1
    rw [tlink_eq, tlink_d]
    have s1 : subl (rotAt A u) (0 : Int) (1 : Int) = some [u] := by
      have := subl_l (xs := rotAt A u) (l := 0) (h := 1) (by omega) (by rw [l2]; simp)
      rw [l2] at this ⊢
      exact this
    have s2 : subl (rotAt A u) (1 : Int) (dlen (rotAt A u)) = some (rotAt A u).tail := by
      have := subl_end (xs := rotAt A u) (l := 1) (by rw [l2]; simp)
      rw [List.drop_one] at this
      exact this
    have d1 : dcut 0 (dnat (dlen [u])) (rotAt A u) = [u] := by rw [l2]; rfl
    have d2 : dcut 1 (dnat (dlen (rotAt A u).tail)) (rotAt A u) = (rotAt A u).tail := by
      rw [dcut, dlen_l, dnat_l, List.drop_one, List.take_length]
    have hcat : concatI ([[u], [arcT n u v], rotAt B v, [arcT n v u], (rotAt A u).tail], ()) = some (linkAll n A B u v, ()) := by
      rw [concatI_val _ (by simp) (by simp; omega)]
      simp [linkAll]
    have ne : ((i : Int)) ≠ (j : Int) := by omega
    simp only [asked_val n rings u v hD, hRF, iu, iv, and_self, if_true, ieq_dec, tplace_val n rings _ hD.1 (fun l hl => (hD.2 l hl).1), pu, pv, ne, decide_true, decide_false, Bool.not_true, idx_some hi, idx_some hj, rfrom_val, fromOut, rA.1, rB.1, hu, hv, s1, s2, tarc_val, d1, d2, hcat, y1]
  · rw [link18_eq, link18_d]
    have s2 : subl (rotAt A u) (1 : Int) (dlen (rotAt A u)) = some (rotAt A u).tail := by
      have := subl_end (xs := rotAt A u) (l := 1) (by rw [l2]; simp)
      rw [List.drop_one] at this
      exact this
    have d2 : dcut 1 (dnat (dlen (rotAt A u).tail)) (rotAt A u) = (rotAt A u).tail := by
      rw [dcut, dlen_l, dnat_l, List.drop_one, List.take_length]
    have ne : ((i : Int)) ≠ (j : Int) := by omega
    have f1 : fits (dlen [u, arcT n u v] + dlen (rotAt B v)) = true := fits_l (by simp only [dlen_l, List.length_cons, List.length_nil]; omega)
    have f2 : fits (dlen (dapp [u, arcT n u v] (rotAt B v)) + dlen [arcT n v u]) = true := fits_l (by simp only [dlen_l, dapp_l, List.length_append, List.length_cons, List.length_nil]; omega)
    have f3 : fits (dlen (dapp (dapp [u, arcT n u v] (rotAt B v)) [arcT n v u]) + dlen (rotAt A u).tail) = true := fits_l (by simp only [dlen_l, dapp_l, List.length_append, List.length_cons, List.length_nil, List.length_tail]; omega)
    have hcat : dapp (dapp (dapp [u, arcT n u v] (rotAt B v)) [arcT n v u]) (rotAt A u).tail = linkAll n A B u v := by simp [dapp_l, linkAll]
    have hput : put18 (rest, linkAll n A B u v, ()) = some (putL rest (plain (linkAll n A B u v)), ()) := put18_val rest _ (by have := hD.1; omega) hner hRG.2.1
    simp only [right18_val n rings hD.1 hD.2, hRF, in18_val, iu, iv, decide_true, Bool.not_true, place18_val n rings _ hD.1 (fun l hl => (hD.2 l hl).1), pu, pv, ieq_dec, ne, decide_false, idx_some hi, idx_some hj, from13_val A u (by have := rA.1.1; omega), from13_val B v (by have := rB.1.1; omega), fromOut, rA.1, rB.1, hu, hv, and_self, if_true, arc18_val, f1, f2, s2, d2, f3, imax_nat, imin_nat, hw1, hw2, hcat, hput]
theorem link_refused2 {n : Int} {rings : List (List Int)} {u v : Int} (hD : Dom rings) (h : ¬ (RF n rings ∧ In n u ∧ In n v)) :
    ∃ e, e ≠ 0 ∧ (∃ b, e = b ∧ (b = 1 ∨ b = 10)) ∧ tlink ((n, (rings, ())), u, v, ()) = some (n, rings, e, ()) ∧ link18 ((n, (rings, ())), u, v, ()) = some (n, rings, e, ()) := by
  by_cases h1 : RF n rings
  · have h2 : ¬ (In n u ∧ In n v) := fun h2 => h ⟨h1, h2⟩
    refine ⟨10, by omega, ⟨10, rfl, .inr rfl⟩, ?_, ?_⟩
    · rw [tlink_eq, tlink_d]
      simp only [asked_val n rings u v hD, h1, h2, if_true, if_false, ieq_dec]
      rfl
    · rw [link18_eq, link18_d]
      simp only [right18_val n rings hD.1 hD.2, h1, in18_val, decide_true, Bool.not_true]
      by_cases hu : In n u
      · have hv : ¬ In n v := fun hv => h2 ⟨hu, hv⟩
        simp [hu, hv]
      · simp [hu]
  · refine ⟨1, by omega, ⟨1, rfl, .inl rfl⟩, ?_, ?_⟩
    · rw [tlink_eq, tlink_d]
      simp only [asked_val n rings u v hD, h1, if_false, ieq_dec]
      rfl
    · rw [link18_eq, link18_d]
      simp only [right18_val n rings hD.1 hD.2, h1, decide_false, Bool.not_false]
theorem both_link2 {n : Int} {rings : List (List Int)} (u v : Int) (hD : Dom rings) : ∃ zs e, tlink ((n, (rings, ())), u, v, ()) = some (n, zs, e, ()) ∧ link18 ((n, (rings, ())), u, v, ()) = some (n, zs, e, ()) ∧ Dom zs := by
  by_cases h : RF n rings ∧ In n u ∧ In n v
  · obtain ⟨h1, iu, iv⟩ := h
    have hF := RF_iff.1 h1
    obtain ⟨i, A, pu, hi, hu, _⟩ := plc_in (hF.cov u iu)
    obtain ⟨j, B, pv, hj, hv, _⟩ := plc_in (hF.cov v iv)
    by_cases hij : i = j
    · obtain ⟨q1, q2⟩ := link_there2 hF iu iv (by rw [pu, pv, hij])
      exact ⟨_, _, q1, q2, hD⟩
    · obtain ⟨zs, rest, q1, q2, q3, _⟩ := link_ok2 hF iu iv hi hj hu hv hij
      exact ⟨_, _, q1, q2, q3.dom⟩
  · obtain ⟨e, _, _, q1, q2⟩ := link_refused2 hD h
    exact ⟨_, _, q1, q2, hD⟩
end Go.Pev.Pl
end
section
namespace Go.Pev.Pl
open Tok
set_option linter.unusedSimpArgs false
def sel (l : List Edge) (bs : List Bool) : List Edge := ((l.zip bs).filter fun p => p.2).map fun p => p.1
theorem sel_snoc (l : List Edge) (bs : List Bool) (x : Edge) (b : Bool) (h : l.length = bs.length) : sel (l ++ [x]) (bs ++ [b]) = sel l bs ++ if b = true then [x] else [] := by
  unfold sel
  rw [List.zip_append h, List.filter_append, List.map_append]
  cases b <;> simp
theorem links19_loop {n : Int} (l : List Edge) (base : List Edge) (K : Nat) (hs : l.length < 1073741824) (ha : ∀ e ∈ l, In n e.1 ∧ In n e.2.1) :
    ∀ (m i cnt : Nat) (rings : List (List Int)) (taken : List Bool), i + m = l.length → taken.length = i → FC n rings (base ++ sel (l.take i) taken) → (sel (l.take i) taken).length + rings.length = K → m < cnt →
    ∃ zs taken', iterO links19_s0 cnt (l, n, rings, (0 : Int), taken, (i : Int), ()) = some (.inl (n, zs, (0 : Int), taken', ())) ∧ FC n zs (base ++ sel l taken') ∧ (sel l taken').length + zs.length = K ∧ taken'.length = l.length := by
  intro m
  induction m with
  | zero =>
    intro i cnt rings taken hi ht h hk hc
    obtain ⟨cnt, rfl⟩ : ∃ c, cnt = c + 1 := ⟨cnt - 1, by omega⟩
    rw [List.take_of_length_le (by omega)] at h hk
    refine ⟨rings, taken, ?_, h, hk, by omega⟩
    rw [iterO, links19_s0, dlen_l, ilt_nat, decide_eq_false (by omega)]
  | succ m ih =>
    intro i cnt rings taken hi ht h hk hc
    obtain ⟨cnt, rfl⟩ : ∃ c, cnt = c + 1 := ⟨cnt - 1, by omega⟩
    have hi' : i < l.length := by omega
    have hx : l[i]? = some l[i] := List.getElem?_eq_getElem hi'
    obtain ⟨iu, iv⟩ := ha _ (List.getElem_mem hi')
    obtain ⟨zs, q, e1, e2, e3⟩ := FC_link h iu iv
    obtain ⟨zs', q', f1, f2, _⟩ := both_link2 (n := n) (rings := rings) l[i].1 l[i].2.1 h.fr.dom
    rw [e1] at f1
    cases f1
    rw [iterO, links19_s0, dlen_l, ilt_nat, decide_eq_true hi']
    simp only [idx_some hx, f2]
    rw [wrap_add1 (by omega), fits_l (by simp only [dlen_l, List.length_cons, List.length_nil]; omega)]
    have hsn := fun b => sel_snoc (l.take i) taken l[i] b (by rw [List.length_take]; omega)
    have htk : l.take (i + 1) = l.take i ++ [l[i]] := List.take_succ_eq_append_getElem hi'
    refine ih (i + 1) cnt zs _ (by omega) (by simp [dapp_l, ht]) ?_ ?_ (by omega)
    · rw [htk, dapp_l, hsn]
      rcases e3 with ⟨rfl, _⟩ | ⟨rfl, rfl⟩
      · rw [if_pos (by rw [ieq_dec]; rfl), ← List.append_assoc]; exact e2
      · rw [if_neg (by rw [ieq_dec]; simp), List.append_nil]; exact h
    · rw [htk, dapp_l, hsn, List.length_append]
      rcases e3 with ⟨rfl, hl⟩ | ⟨rfl, rfl⟩
      · rw [if_pos (by rw [ieq_dec]; rfl)]; simp; omega
      · rw [if_neg (by rw [ieq_dec]; simp)]; simpa using hk
end Go.Pev.Pl
end
section
namespace Go.Pev.Pl
open Tok
instance (n v : Int) : Decidable (In n v) := inferInstanceAs (Decidable (_ ∧ _))
instance (n : Int) : Decidable (Sz n) := inferInstanceAs (Decidable (_ ∧ _))
end Go.Pev.Pl
end
section
namespace Go.Pev.Pl
instance (xs : List Int) : Decidable (Rt xs) := inferInstanceAs (Decidable (_ ∧ _ ∧ _))
end Go.Pev.Pl
end
section
namespace Go.Pev.Pl
open Tok
noncomputable instance (n : Int) (xs : List Int) : Decidable (TI n xs) := Classical.propDecidable _
end Go.Pev.Pl
end
section
namespace Go.Pev.Pl
open Tok
end Go.Pev.Pl
end
section
namespace Go.Pev.Pl
open Tok
end Go.Pev.Pl
end
section
namespace Go.Pev.Pl
open Tok
end Go.Pev.Pl
end
section
namespace Go.Pev.Pl
open Tok
noncomputable instance (n : Int) (rings : List (List Int)) : Decidable (RF n rings) := Classical.propDecidable _
noncomputable instance (n : Int) (xs : List Int) : Decidable (RG n xs) := Classical.propDecidable _
end Go.Pev.Pl
end
section
namespace Go.Pev.Pl
open Tok
end Go.Pev.Pl
end
section
namespace Go.Pev.Pl
open Tok
end Go.Pev.Pl
end
section
namespace Go.Pev.Pl
open Go.RowKit Tok
end Go.Pev.Pl
end
section
namespace Go.Pev.Pl
open Tok
theorem there19_val (n : Int) (rings : List (List Int)) (l : List (Int × Int × Unit)) (hD : Dom rings) (hs : l.length < 9223372036854775808) : there19 ((n, (rings, ())), l, ()) = some (askE n rings (l.all fun e => decide (In n e.1) && decide (In n e.2.1)), ()) := by
  rw [there19_eq, there19_d]
  simp only [right18_val n rings hD.1 hD.2, askE]
  by_cases h : RF n rings
  · simp only [h, decide_true, Bool.not_true, if_true]
    have e := findL (step := there19_s0) (fun i => (l, n, rings, (i : Int), ())) l (fun e => !(decide (In n e.1) && decide (In n e.2.1))) (fun _ => .inl ((10 : Int), ())) (.inr (.inl ())) hs
      (fun i x hi hx => by
        rw [there19_s0, dlen_l, ilt_nat, decide_eq_true hi]
        simp only [idx_some hx, ilt_eq, ile_eq]
        rw [wrap_add1 (by omega)]
        have q1 := In_not (v := x.1) h.1
        have q2 := In_not (v := x.2.1) h.1
        by_cases c1 : x.1 < 0
        · rw [decide_eq_true c1, Bool.true_or] at q1
          have : decide (In n x.1) = false := by simpa using q1.symm
          simp [c1, this]
        · by_cases c2 : n ≤ x.1
          · rw [decide_eq_true c2, Bool.or_true] at q1
            have : decide (In n x.1) = false := by simpa using q1.symm
            simp [c1, c2, this]
          · rw [decide_eq_false c1, decide_eq_false c2] at q1
            have g1 : decide (In n x.1) = true := by simpa using q1.symm
            by_cases c3 : x.2.1 < 0
            · rw [decide_eq_true c3, Bool.true_or] at q2
              have : decide (In n x.2.1) = false := by simpa using q2.symm
              simp [c1, c2, c3, this]
            · by_cases c4 : n ≤ x.2.1
              · rw [decide_eq_true c4, Bool.or_true] at q2
                have : decide (In n x.2.1) = false := by simpa using q2.symm
                simp [c1, c2, c3, c4, this]
              · rw [decide_eq_false c3, decide_eq_false c4] at q2
                have g2 : decide (In n x.2.1) = true := by simpa using q2.symm
                simp [c1, c2, c3, c4, g1, g2])
      (by rw [there19_s0, dlen_l, ilt_nat, decide_eq_false (by omega)])
    have e' : iterL there19_s0 many (l, n, rings, (0 : Int), ()) = _ := e
    rw [e', List.any_eq_not_all_not]
    simp only [Bool.not_not]
    cases l.all fun e => decide (In n e.1) && decide (In n e.2.1) <;> rfl
  · simp [h]
end Go.Pev.Pl
end
section
namespace Go.Pev.Pl
open Tok
set_option linter.unusedSimpArgs false
theorem links19_val {n : Int} {rings : List (List Int)} {base : List Edge} (h : FC n rings base) (l : List Edge) (hs : l.length < 1073741824) (ha : ∀ e ∈ l, In n e.1 ∧ In n e.2.1) :
    ∃ zs bs, links19 ((n, (rings, ())), l, ()) = some ((n, (zs, ())), bs, 0, ()) ∧ FC n zs (base ++ sel l bs) ∧ (sel l bs).length + zs.length = rings.length ∧ bs.length = l.length := by
  have hall : (l.all fun e => decide (In n e.1) && decide (In n e.2.1)) = true := by
    rw [List.all_eq_true]
    intro e he
    obtain ⟨h1, h2⟩ := ha e he
    simp [h1, h2]
  obtain ⟨zs, bs, e, h1, h2, h3⟩ := links19_loop l base rings.length hs ha l.length 0 many rings [] (by omega) rfl (by simpa [sel] using h) (by simp [sel]) (by simp only [many]; omega)
  have e' : iterL links19_s0 many (l, n, rings, (0 : Int), [], (0 : Int), ()) = _ := (iterL_eq _ _ _).trans e
  refine ⟨zs, bs, ?_, h1, h2, h3⟩
  rw [links19_eq, links19_d]
  simp only [there19_val n rings l h.fr.dom (by omega), hall]
  have hE : askE n rings true = 0 := by
    unfold askE
    simp [RF_iff.2 h.fr]
  rw [hE]
  simp only [ieq_self', Bool.not_true, e']
theorem choose20_val {n : Int} {rings : List (List Int)} {base : List Edge} (h : FC n rings base) (l : List Edge) (hs : l.length < 1073741824) (ha : ∀ e ∈ l, In n e.1 ∧ In n e.2.1) :
    ∃ zs bs, choose20 ((n, (rings, ())), l, ()) = some (bs, 0, ()) ∧ FC n zs (base ++ sel l bs) ∧ (sel l bs).length + zs.length = rings.length ∧ bs.length = l.length := by
  obtain ⟨zs, bs, e, h1, h2, h3⟩ := links19_val h l hs ha
  refine ⟨zs, bs, ?_, h1, h2, h3⟩
  rw [choose20_eq, choose20_d]
  simp only [e]
end Go.Pev.Pl
end
section
namespace Go.Pev.Pl
open Tok
set_option linter.unusedSimpArgs false
theorem links19_loop2 {n : Int} (l : List Edge) (base : List Edge) (hs : l.length < 1073741824) (ha : ∀ e ∈ l, In n e.1 ∧ In n e.2.1) :
    ∀ (m i cnt : Nat) (rings : List (List Int)) (taken : List Bool), i + m = l.length → taken.length = i → FC n rings (base ++ l.take i) → m < cnt →
    ∃ zs taken', iterO links19_s0 cnt (l, n, rings, (0 : Int), taken, (i : Int), ()) = some (.inl (n, zs, (0 : Int), taken', ())) ∧ FC n zs (base ++ l) := by
  intro m
  induction m with
  | zero =>
    intro i cnt rings taken hi ht h hc
    obtain ⟨cnt, rfl⟩ : ∃ c, cnt = c + 1 := ⟨cnt - 1, by omega⟩
    rw [List.take_of_length_le (by omega)] at h
    refine ⟨rings, taken, ?_, h⟩
    rw [iterO, links19_s0, dlen_l, ilt_nat, decide_eq_false (by omega)]
  | succ m ih =>
    intro i cnt rings taken hi ht h hc
    obtain ⟨cnt, rfl⟩ : ∃ c, cnt = c + 1 := ⟨cnt - 1, by omega⟩
    have hi' : i < l.length := by omega
    have hx : l[i]? = some l[i] := List.getElem?_eq_getElem hi'
    obtain ⟨iu, iv⟩ := ha _ (List.getElem_mem hi')
    obtain ⟨zs, q, e1, e2, e3⟩ := FC_link h iu iv
    obtain ⟨zs', q', f1, f2, _⟩ := both_link2 (n := n) (rings := rings) l[i].1 l[i].2.1 h.fr.dom
    rw [e1] at f1
    cases f1
    rw [iterO, links19_s0, dlen_l, ilt_nat, decide_eq_true hi']
    simp only [idx_some hx, f2]
    rw [wrap_add1 (by omega), fits_l (by simp only [dlen_l, List.length_cons, List.length_nil]; omega)]
    have htk : l.take (i + 1) = l.take i ++ [l[i]] := List.take_succ_eq_append_getElem hi'
    refine ih (i + 1) cnt zs _ (by omega) (by simp [dapp_l, ht]) ?_ (by omega)
    rw [htk, ← List.append_assoc]; exact e2
theorem of19_val {N : Nat} (h1 : 1 ≤ N) (hN : N ≤ 64) (l : List Edge) (hs : l.length < 1073741824) (ha : ∀ e ∈ l, In (N : Int) e.1 ∧ In (N : Int) e.2.1) :
    ∃ zs, of19 ((N : Int), l, ()) = some (((N : Int), (zs, ())), 0, ()) ∧ FC (N : Int) zs l := by
  have hF := FC_singles h1 hN
  have hall : (l.all fun e => decide (In (N : Int) e.1) && decide (In (N : Int) e.2.1)) = true := by
    rw [List.all_eq_true]
    intro e he
    obtain ⟨h1, h2⟩ := ha e he
    simp [h1, h2]
  obtain ⟨zs, bs, e, h2⟩ := links19_loop2 l [] hs ha l.length 0 many (singles N) [] (by omega) rfl (by simpa using hF) (by simp only [many]; omega)
  have e' : iterL links19_s0 many (l, (N : Int), singles N, (0 : Int), [], (0 : Int), ()) = _ := (iterL_eq _ _ _).trans e
  have hE : askE (N : Int) (singles N) true = 0 := by
    unfold askE
    simp [RF_iff.2 hF.fr]
  have hL : links19 (((N : Int), (singles N, ())), l, ()) = some (((N : Int), (zs, ())), bs, 0, ()) := by
    rw [links19_eq, links19_d]
    simp only [there19_val (N : Int) (singles N) l hF.fr.dom (by omega), hall]
    rw [hE]
    simp only [ieq_self', Bool.not_true, e']
  refine ⟨zs, ?_, by simpa using h2⟩
  have hm : make18 ((N : Int), ()) = some ((N : Int), singles N, 0, ()) := by
    rw [make18_val]
    unfold makeOut
    rw [if_pos (show Sz (N : Int) from ⟨by omega, by omega⟩), Int.toNat_natCast]
  rw [of19_eq, of19_d]
  simp only [hm, ieq_self', Bool.not_true, hL]
end Go.Pev.Pl
end
section
namespace Go.Pev.Pl
open Tok
set_option linter.unusedSimpArgs false
set_option maxRecDepth 100000
theorem trees21_val {N : Nat} (ts : List Tie) (hs : ts.length ≤ 400) (h : oks N ts) : trees21 (((N : Int), (ts, ())), (0 : Int), ()) = some (trs ts ts.length, ()) := by
  rw [trees21_eq, trees21_d]
  have e := walkL (step := trees21_s0) (fun i (a : List Edge) => ((0 : Int), (N : Int), ts, a, (i : Int), ())) (List.range ts.length) (fun i a => .inl (if (ts.getD i zT).2.2.2.1 = true then a ++ [ed (ts.getD i zT)] else a)) (fun a => .inl (a, ())) (fun i a => a.length ≤ i) (by simp; omega)
    (fun i x a hi hx ha => by
      refine ⟨fun m' h' => ?_, fun r h' => (by cases h')⟩
      cases h'
      have := range_get' hx
      subst this
      rw [List.length_range] at hi
      have hlv := (h x (by simp [hi])).2.2.2.1
      constructor
      · rw [trees21_s0, dlen_l, ilt_nat, decide_eq_true hi]
        simp only [idx_l zT hi, dlen_l]
        have hfit : fits ((a.length : Int) + (([((ts.getD x zT).1, (ts.getD x zT).2.1, ())] : List Edge).length : Int)) = true := fits_l (by simp; omega)
        rw [wrap_add1 (by omega), ile_eq, decide_eq_true hlv]
        cases ht4 : (ts.getD x zT).2.2.2.1
        · simp
        · simp only [hfit]
          simp [ed, dapp]
      · split
        · rw [List.length_append]; simp; omega
        · omega)
    (fun a _ => by rw [trees21_s0, List.length_range, dlen_l, ilt_nat, decide_eq_false (by omega)]) [] (Nat.le_refl _)
  have e' : iterL trees21_s0 many ((0 : Int), (N : Int), ts, [], (0 : Int), ()) = _ := e
  simp only [e']
  rw [walk_fold (fun i a => if (ts.getD i zT).2.2.2.1 = true then a ++ [ed (ts.getD i zT)] else a)]
  rfl
theorem forest21_val {N : Nat} (h1 : 1 ≤ N) (hN : N ≤ 64) (ts : List Tie) (hs : ts.length ≤ 400) (h : oks N ts) (hr : right21 (((N : Int), (ts, ())), ()) = some (true, ())) :
    ∃ zs, forest21 (((N : Int), (ts, ())), (0 : Int), ()) = some (((N : Int), (zs, ())), 0, ()) ∧ FC (N : Int) zs (trs ts ts.length) := by
  have hl := trs_len ts ts.length
  obtain ⟨zs, e, hF⟩ := of19_val h1 hN (trs ts ts.length) (by omega) (trs_in hN h)
  refine ⟨zs, ?_, hF⟩
  rw [forest21_eq, forest21_d]
  simp only [hr, Bool.not_true, trees21_val ts hs h, e]
end Go.Pev.Pl
end
section
namespace Go.Pev.Pl
open Tok
theorem graph_right (n : Int) (ts : List Tie) (hl : ts.length < 4611686018427387904) :
    (right21 ((n, (ts, ())), ()) = some (false, ()) ∧ sayof ((n, (ts, ())), ()) = some ([], false, ())) ∨
    (∃ (N : Nat) (out : List Int), n = (N : Int) ∧ 1 ≤ N ∧ N ≤ 64 ∧ ts.length ≤ 400 ∧ out.length = N ∧ ClOK (N : Int) (ts.map ed) out ∧ right21 ((n, (ts, ())), ()) = some (true, ()) ∧ sayof ((n, (ts, ())), ()) = some (out, true, ()) ∧ oks N ts) := by
  obtain ⟨b, h1, h2, h3⟩ := both_right n ts hl
  cases b
  · left
    refine ⟨h1, ?_⟩
    rw [sayof_eq, sayof_d]
    simp only [h2, Bool.not_false]
  · right
    obtain ⟨N, rfl, q1, q2, q3, q4⟩ := h3 rfl
    have hin := eds_in q2 q4
    have hz : Sz (N : Int) := ⟨by omega, by omega⟩
    obtain ⟨o1, e1, c1⟩ := sclasses_val (N : Int) (ts.map ed) hz (by rw [List.length_map]; omega) hin
    have ho : o1.length = N := by have := c1.len; omega
    refine ⟨N, o1, rfl, q1, q2, q3, ho, c1, h1, ?_, q4⟩
    rw [sayof_eq, sayof_d]
    simp only [h2, Bool.not_true, ledges_val (N : Int) ts q3 h2, e1]
theorem right_count {N : Nat} (h1 : 1 ≤ N) (hN : N ≤ 64) {ts : List Tie} (hs : ts.length ≤ 400) (ho : oks N ts) {out : List Int} (hc : ClOK (N : Int) (trs ts ts.length) out) :
    right21 (((N : Int), (ts, ())), ()) = some (decide ((cnt out N : Int) = (N : Int) - (trs ts ts.length).length), ()) := by
  have R := right21_loop N hN ts hs
  rw [if_pos ho] at R
  have hin := trs_in hN ho
  have hlen := trs_len ts ts.length
  obtain ⟨o2, e2, c2⟩ := classes19_val (N : Int) (trs ts ts.length) ⟨by omega, by omega⟩ (by omega) hin
  have := ClOK.unique h1 hN hc c2
  subst this
  have hol : out.length = N := by have := hc.len; omega
  rw [right21_eq, right21_d]
  simp only [ilt_eq, dlen_l]
  rw [decide_eq_false (show ¬ (N : Int) < 1 by omega), decide_eq_false (show ¬ 64 < (N : Int) by omega), decide_eq_false (show ¬ 400 < (ts.length : Int) by omega)]
  simp only [R, e2, right21_count N hN _ _ out hol, ieq_dec]
  rw [wrap_in (by omega)]
end Go.Pev.Pl
end
section
namespace Go.Pev.Pl
open Tok
set_option linter.unusedSimpArgs false
theorem Con.perm {l l' : List Edge} (h : ∀ e, e ∈ l ↔ e ∈ l') {a b : Int} : Con l a b ↔ Con l' a b :=
  ⟨fun c => c.mono fun e he => ⟨e, (h e).1 he, .inl ⟨rfl, rfl⟩⟩, fun c => c.mono fun e he => ⟨e, (h e).2 he, .inl ⟨rfl, rfl⟩⟩⟩
theorem ClOK.congr {n : Int} {l l' : List Edge} {out : List Int} (h : ∀ a b, Con l a b ↔ Con l' a b) (hc : ClOK n l out) : ClOK n l' out :=
  ⟨hc.len, fun a b ia ib => (hc.same a b ia ib).trans (h a b), hc.isin, fun a ia => (h a _).1 (hc.con a ia), fun a b ia ib c => hc.least a b ia ib ((h a b).2 c)⟩
theorem cntC_mono {N : Nat} (h1 : 1 ≤ N) (hN : N ≤ 64) {l l' : List Edge} {out out' : List Int} (hc : ClOK (N : Int) l out) (hc' : ClOK (N : Int) l' out') (hsub : ∀ e ∈ l, e ∈ l') {u : Nat} (hu : u < N) :
    cntC out N (cl out (u : Int)) ≤ cntC out' N (cl out' (u : Int)) := by
  have hin : ∀ k : Nat, k < N → In (N : Int) (k : Int) := fun k hk => ⟨by omega, by omega, by omega, by omega⟩
  have hg : ∀ (o : List Int) (k : Nat), o.getD k 0 = cl o (k : Int) := fun o k => by unfold cl; rw [Int.toNat_natCast]
  unfold cntC
  rw [← List.countP_eq_length_filter, ← List.countP_eq_length_filter]
  refine List.countP_mono_left fun k hk h => ?_
  have hk : k < N := by simpa using hk
  rw [decide_eq_true_eq] at h ⊢
  rw [hg] at h ⊢
  have c := (hc.same _ _ (hin k hk) (hin u hu)).1 h
  exact (hc'.same _ _ (hin k hk) (hin u hu)).2 (c.mono fun e he => ⟨e, hsub e he, .inl ⟨rfl, rfl⟩⟩)
end Go.Pev.Pl
end
section
namespace Go.Pev.Pl
open Tok
set_option linter.unusedSimpArgs false
theorem asked20_val {N : Nat} (h1 : 1 ≤ N) (hN : N ≤ 64) (l : List Edge) (hs : l.length < 1073741824) (ha : ∀ e ∈ l, In (N : Int) e.1 ∧ In (N : Int) e.2.1) : asked20 ((N : Int), l, ()) = some (0, ()) := by
  rw [asked20_eq, asked20_d, ilt_eq, decide_eq_false (by omega), ilt_eq, decide_eq_false (by omega)]
  have e := findL (step := asked20_s0) (fun i => ((N : Int), l, (i : Int), ())) l (fun _ => false) (fun _ => .inl (10, ())) (.inr (.inl ())) (by omega)
    (fun i x hi hx => by
      obtain ⟨⟨_, _, a1, a2⟩, ⟨_, _, b1, b2⟩⟩ := ha x (List.mem_of_getElem? hx)
      rw [asked20_s0, dlen_l, ilt_nat, decide_eq_true hi]
      simp only [idx_some hx]
      rw [ilt_eq, ile_eq, ilt_eq, ile_eq, decide_eq_false (show ¬ x.1 < 0 by omega), decide_eq_false (show ¬ (N : Int) ≤ x.1 by omega), decide_eq_false (show ¬ x.2.1 < 0 by omega), decide_eq_false (show ¬ (N : Int) ≤ x.2.1 by omega), wrap_add1 (by omega)]
      rfl)
    (by rw [asked20_s0, dlen_l, ilt_nat, decide_eq_false (by omega)])
  have e' : iterL asked20_s0 many ((N : Int), l, (0 : Int), ()) = _ := e
  simp only [e']
  simp
theorem count20_val {N : Nat} (h1 : 1 ≤ N) (hN : N ≤ 64) (l : List Edge) (hs : l.length < 1073741824) (ha : ∀ e ∈ l, In (N : Int) e.1 ∧ In (N : Int) e.2.1) {out : List Int} (hc : ClOK (N : Int) l out) : count20 ((N : Int), l, ()) = some ((cnt out N : Int), 0, ()) := by
  obtain ⟨o2, e2, c2⟩ := classes19_val (N : Int) l ⟨by omega, by omega⟩ hs ha
  have := ClOK.unique h1 hN hc c2
  subst this
  have ho : out.length = N := by have := hc.len; omega
  rw [count20_eq, count20_d, classes20_eq, classes20_d]
  simp only [asked20_val h1 hN l hs ha, ieq_self', Bool.not_true, e2]
  have e := walkL (step := count20_s0) (fun i (a : Nat) => (out, (0 : Int), (a : Int), (i : Int), ())) (List.range N) (fun k a => .inl (if out.getD k 0 = (k : Int) then a + 1 else a)) (fun a => .inl ((0 : Int), (a : Int), ())) (fun i a => a ≤ i) (by simp; omega)
    (fun i x a hi hx ha => by
      refine ⟨fun m' h' => ?_, fun r h' => (by cases h')⟩
      cases h'
      have := range_get' hx
      subst this
      rw [List.length_range] at hi
      constructor
      · rw [count20_s0, dlen_l, ho, ilt_nat, decide_eq_true hi]
        simp only [idx_l 0 (show x < out.length by omega), dget_l, ieq_dec]
        rw [wrap_add1 (by omega), wrap_add1 (by omega)]
        by_cases h : out.getD x 0 = (x : Int)
        · rw [decide_eq_true h, if_pos h]
        · rw [decide_eq_false h, if_neg h]
      · split <;> omega)
    (fun a _ => by rw [count20_s0, List.length_range, dlen_l, ho, ilt_nat, decide_eq_false (by omega)]) 0 (Nat.le_refl _)
  have e' : iterL count20_s0 many (out, (0 : Int), (0 : Int), (0 : Int), ()) = _ := e
  simp only [e']
  rw [walk_fold (fun k a => if out.getD k 0 = (k : Int) then a + 1 else a), foldl_cnt (fun k => out.getD k 0 = (k : Int)), Nat.zero_add]
  rfl
end Go.Pev.Pl
end
section
namespace Go.Pev.Pl
open Tok
set_option linter.unusedSimpArgs false
def tieOf (x : Edge) (b : Bool) : Tie := (x.1, x.2.1, 0, b, ())
def addT (ts : List Tie) (xs : List Edge) (bs : List Bool) (k : Nat) : List Tie := (List.range k).foldl (fun a i => putT a (tieOf (xs.getD i (0, 0, ())) (bs.getD i false))) ts
theorem putT_len (l : List Tie) (t : Tie) : (putT l t).length = l.length + 1 := by
  have := (putT_perm l t).length_eq
  simpa using this
theorem add22_loop (n : Int) (ts : List Tie) (xs : List Edge) (bs : List Bool) (hx : xs.length ≤ 4096) (ht : ts.length ≤ 400) (hb : bs.length = xs.length) :
    iterL add22_s0 many ((0 : Int), xs, bs, n, ts, (0 : Int), ()) = some (.inl ((0 : Int), xs, n, addT ts xs bs xs.length, ())) := by
  have e := walkL (step := add22_s0) (fun i (a : List Tie) => ((0 : Int), xs, bs, n, a, (i : Int), ())) (List.range xs.length) (fun i a => .inl (putT a (tieOf (xs.getD i (0, 0, ())) (bs.getD i false)))) (fun a => .inl ((0 : Int), xs, n, a, ())) (fun i a => a.length = ts.length + i) (by simp; omega)
    (fun i x a hi hxx ha => by
      refine ⟨fun m' h' => ?_, fun r h' => (by cases h')⟩
      cases h'
      have := range_get' hxx
      subst this
      rw [List.length_range] at hi
      constructor
      · rw [add22_s0, dlen_l, ilt_nat, decide_eq_true hi]
        simp only [idx_l ((0 : Int), ((0 : Int), ())) hi, idx_l false (show x < bs.length by omega), dget_l]
        have hp := put22_val a (tieOf (xs.getD x (0, 0, ())) (bs.getD x false)) (by omega)
        unfold tieOf at hp ⊢
        simp only [hp]
        rw [wrap_add1 (by omega)]
      · rw [putT_len, ha]; omega)
    (fun a _ => by rw [add22_s0, List.length_range, dlen_l, ilt_nat, decide_eq_false (by omega)]) ts rfl
  have e' : iterL add22_s0 many ((0 : Int), xs, bs, n, ts, (0 : Int), ()) = _ := e
  rw [e', walk_fold (fun i a => putT a (tieOf (xs.getD i (0, 0, ())) (bs.getD i false)))]
  rfl
end Go.Pev.Pl
end
section
namespace Go.Pev.Pl
open Tok
set_option linter.unusedSimpArgs false
def newT (xs : List Edge) (bs : List Bool) (k : Nat) : List Tie := (List.range k).map fun i => tieOf (xs.getD i (0, 0, ())) (bs.getD i false)
theorem addT_succ (ts : List Tie) (xs : List Edge) (bs : List Bool) (k : Nat) : addT ts xs bs (k + 1) = putT (addT ts xs bs k) (tieOf (xs.getD k (0, 0, ())) (bs.getD k false)) := by
  unfold addT
  rw [List.range_succ, List.foldl_append]
  rfl
theorem addT_perm (ts : List Tie) (xs : List Edge) (bs : List Bool) : ∀ k, (addT ts xs bs k).Perm (ts ++ newT xs bs k) := by
  intro k
  induction k with
  | zero => simp [addT, newT]
  | succ k ih =>
    rw [addT_succ]
    refine (putT_perm _ _).trans ?_
    unfold newT at *
    rw [List.range_succ, List.map_append, ← List.append_assoc]
    refine (List.Perm.cons _ ih).trans ?_
    exact (List.perm_append_singleton _ _).symm
end Go.Pev.Pl
end
section
namespace Go.Pev.Pl
open Tok
set_option linter.unusedSimpArgs false
theorem addT_oks {N : Nat} {ts : List Tie} (h : oks N ts) (hv0 : 0 ≤ topV N) {xs : List Edge} (bs : List Bool) (hp : xs.Pairwise aheadE) (hx : ∀ e ∈ xs, 0 ≤ e.1 ∧ e.1 < e.2.1 ∧ e.2.1 < (N : Int)) (hn : ∀ e ∈ xs, ¬ e ∈ ts.map ed) : oks N (addT ts xs bs xs.length) := by
  rw [oks_iff] at h ⊢
  obtain ⟨h1, h2⟩ := h
  have hget : ∀ i (hi : i < xs.length), xs.getD i (0, 0, ()) = xs[i] := fun i hi => by
    simp only [List.getD_eq_getElem?_getD, List.getElem?_eq_getElem hi, Option.getD_some]
  have hmem : ∀ k, k ≤ xs.length → ∀ t ∈ addT ts xs bs k, t ∈ ts ∨ ∃ i, i < k ∧ t = tieOf (xs.getD i (0, 0, ())) (bs.getD i false) := by
    intro k hk t ht
    rcases List.mem_append.1 ((addT_perm ts xs bs k).mem_iff.1 ht) with h | h
    · exact .inl h
    · unfold newT at h
      obtain ⟨i, hi, rfl⟩ := List.mem_map.1 h
      exact .inr ⟨i, by simpa using hi, rfl⟩
  refine ⟨fun t ht => ?_, ?_⟩
  · rcases hmem _ (Nat.le_refl _) t ht with h | ⟨i, hi, rfl⟩
    · exact h1 t h
    · rw [hget i hi]
      obtain ⟨q1, q2, q3⟩ := hx xs[i] (List.getElem_mem hi)
      exact ⟨q1, q2, q3, by show (0 : Int) ≤ 0; omega, hv0⟩
  · have key : ∀ k, k ≤ xs.length → (addT ts xs bs k).Pairwise ahead := by
      intro k
      induction k with
      | zero => intro _; exact h2
      | succ k ih =>
        intro hk
        rw [addT_succ]
        refine putT_pair (ih (by omega)) fun t ht => ?_
        rw [hget k (by omega)]
        rintro ⟨e1, e2⟩
        rcases hmem k (by omega) t ht with h | ⟨i, hi, rfl⟩
        · refine hn xs[k] (List.getElem_mem (by omega)) (List.mem_map.2 ⟨t, h, ?_⟩)
          unfold ed
          rw [e1, e2]
          rfl
        · rw [hget i (by omega)] at e1 e2
          have := (List.pairwise_iff_getElem.1 hp) i k (by omega) (by omega) hi
          unfold aheadE at this
          simp only [tieOf] at e1 e2
          omega
    exact key _ (Nat.le_refl _)
end Go.Pev.Pl
end
section
namespace Go.Pev.Pl
open Tok
set_option linter.unusedSimpArgs false
theorem trs_take (ts : List Tie) : ∀ k, k ≤ ts.length → trs ts k = ((ts.take k).filter fun t => t.2.2.2.1).map ed := by
  intro k
  induction k with
  | zero => intro _; simp [trs]
  | succ k ih =>
    intro hk
    have hk' : k < ts.length := by omega
    rw [trs_succ, ih (by omega), List.take_succ_eq_append_getElem hk', List.filter_append, List.map_append]
    simp only [List.getD_eq_getElem?_getD, List.getElem?_eq_getElem hk', Option.getD_some]
    cases h : ts[k].2.2.2.1
    · simp [h]
    · simp [h]
theorem trs_all (ts : List Tie) : trs ts ts.length = (ts.filter fun t => t.2.2.2.1).map ed := by
  rw [trs_take ts _ (Nat.le_refl _), List.take_length]
end Go.Pev.Pl
end
section
namespace Go.Pev.Pl
open Tok
set_option linter.unusedSimpArgs false
theorem newT_zip {xs : List Edge} {bs : List Bool} (h : bs.length = xs.length) : newT xs bs xs.length = (xs.zip bs).map fun p => tieOf p.1 p.2 := by
  unfold newT
  apply List.ext_getElem
  · simp [h]
  · intro i h1 h2
    have hi : i < xs.length := by simpa using h1
    simp [hi, show i < bs.length by omega]
theorem zip_fst : ∀ (xs : List Edge) (bs : List Bool), bs.length = xs.length → ((xs.zip bs).map fun p => p.1) = xs := by
  intro xs
  induction xs with
  | nil => intro bs _; rfl
  | cons x xs ih =>
    intro bs h
    cases bs with
    | nil => simp at h
    | cons b bs => simp only [List.zip_cons_cons, List.map_cons, ih bs (by simpa using h)]
theorem addT_eds (ts : List Tie) {xs : List Edge} {bs : List Bool} (h : bs.length = xs.length) : ((addT ts xs bs xs.length).map ed).Perm (ts.map ed ++ xs) := by
  refine ((addT_perm ts xs bs xs.length).map ed).trans ?_
  rw [List.map_append, newT_zip h, List.map_map]
  have : ((xs.zip bs).map (ed ∘ fun p => tieOf p.1 p.2)) = xs := zip_fst xs bs h
  rw [this]
theorem addT_trs (ts : List Tie) {xs : List Edge} {bs : List Bool} (h : bs.length = xs.length) : (trs (addT ts xs bs xs.length) (addT ts xs bs xs.length).length).Perm (trs ts ts.length ++ sel xs bs) := by
  rw [trs_all, trs_all]
  refine (((addT_perm ts xs bs xs.length).filter _).map ed).trans ?_
  rw [List.filter_append, List.map_append, newT_zip h, List.filter_map, List.map_map]
  exact List.Perm.refl _
theorem addT_len (ts : List Tie) (xs : List Edge) (bs : List Bool) : ∀ k, (addT ts xs bs k).length = ts.length + k := by
  intro k
  rw [(addT_perm ts xs bs k).length_eq]
  simp [newT]
theorem addT_right {N : Nat} (h1 : 1 ≤ N) (hN : N ≤ 64) {ts : List Tie} (hs : ts.length ≤ 400) (ho : oks N ts) (hr : right21 (((N : Int), (ts, ())), ()) = some (true, ())) {xs : List Edge} {bs : List Bool} (hb : bs.length = xs.length)
    (hl : ts.length + xs.length ≤ 400) (ho' : oks N (addT ts xs bs xs.length)) {rings zs : List (List Int)} (hf : FC (N : Int) rings (trs ts ts.length)) (hz : FC (N : Int) zs (trs ts ts.length ++ sel xs bs)) (hc : (sel xs bs).length + zs.length = rings.length) :
    right21 (((N : Int), (addT ts xs bs xs.length, ())), ()) = some (true, ()) := by
  have hin := trs_in hN ho
  have hin' := trs_in hN ho'
  have hlen := trs_len ts ts.length
  have hlen' := trs_len (addT ts xs bs xs.length) (addT ts xs bs xs.length).length
  have hal := addT_len ts xs bs xs.length
  obtain ⟨o1, _, c1⟩ := classes19_val (N : Int) (trs ts ts.length) ⟨by omega, by omega⟩ (by omega) hin
  obtain ⟨o2, _, c2⟩ := classes19_val (N : Int) (trs (addT ts xs bs xs.length) (addT ts xs bs xs.length).length) ⟨by omega, by omega⟩ (by omega) hin'
  have r1 := right_count h1 hN hs ho c1
  rw [hr] at r1
  have hq : ((cnt o1 N : Int) = (N : Int) - (trs ts ts.length).length) := by
    have : true = decide ((cnt o1 N : Int) = (N : Int) - (trs ts ts.length).length) := by injection r1 with r1; injection r1
    exact of_decide_eq_true this.symm
  have e1 := rings_count hf c1
  have hp := addT_trs ts (xs := xs) hb
  have c3 : ClOK (N : Int) (trs ts ts.length ++ sel xs bs) o2 := ClOK.congr (fun a b => Con.perm fun e => hp.mem_iff) c2
  have e2 := rings_count hz c3
  have hpl := hp.length_eq
  rw [List.length_append] at hpl
  rw [right_count h1 hN (by omega) ho' c2, decide_eq_true (by omega)]
end Go.Pev.Pl
end
section
namespace Go.Pev.Pl
open Tok
set_option linter.unusedSimpArgs false
set_option maxRecDepth 100000
def allIn (N : Nat) (l : List Edge) : Prop := ∀ e ∈ l, In (N : Int) e.1 ∧ In (N : Int) e.2.1
theorem comeL_len (N : Nat) (hN : N ≤ 64) (ts : List Tie) (l : List Edge) : (comeL N ts l).length ≤ 4096 := by
  unfold comeL
  exact Nat.le_trans (List.length_filter_le _ _) (plainL_len N hN l)
theorem comeL_in {N : Nat} (hN : N ≤ 64) (ts : List Tie) (l : List Edge) : ∀ e ∈ comeL N ts l, In (N : Int) e.1 ∧ In (N : Int) e.2.1 := by
  intro e he
  obtain ⟨⟨a, b, c, _⟩, _⟩ := (mem_comeL N ts l e).1 he
  exact ⟨⟨by omega, by omega, a, by omega⟩, ⟨by omega, by omega, by omega, c⟩⟩
theorem add22_val {N : Nat} (h1 : 1 ≤ N) (hN : N ≤ 64) {ts : List Tie} (ht : ts.length ≤ 400) (ho : oks N ts) (l : List Edge) (hs : l.length < 1073741824) (hr : right21 (((N : Int), (ts, ())), ()) = some (true, ())) :
    (∃ e, e ≠ 0 ∧ add22 (((N : Int), (ts, ())), l, ()) = some ((N : Int), ts, 0, e, ())) ∨
    (allIn N l ∧ ts.length + (comeL N ts l).length ≤ 400 ∧ ∃ bs zs rings, bs.length = (comeL N ts l).length ∧ FC (N : Int) rings (trs ts ts.length) ∧ FC (N : Int) zs (trs ts ts.length ++ sel (comeL N ts l) bs) ∧ (sel (comeL N ts l) bs).length + zs.length = rings.length ∧
      oks N (addT ts (comeL N ts l) bs (comeL N ts l).length) ∧ right21 (((N : Int), (addT ts (comeL N ts l) bs (comeL N ts l).length, ())), ()) = some (true, ()) ∧
      add22 (((N : Int), (ts, ())), l, ()) = some ((N : Int), addT ts (comeL N ts l) bs (comeL N ts l).length, ((comeL N ts l).length : Int), 0, ())) := by
  have hn := new22_val h1 hN ts ht l hs hr
  rw [add22_eq, add22_d]
  by_cases h : ¬ ∀ e ∈ l, In (N : Int) e.1 ∧ In (N : Int) e.2.1
  · rw [if_neg h] at hn
    left
    simp only [hn, ieq_dec]
    exact ⟨10, by omega, rfl⟩
  have h := Classical.not_not.1 h
  rw [if_pos h] at hn
  have hcl := comeL_len N hN ts l
  have hci := comeL_in hN ts l
  have hcp := comeL_pair N ts l
  have hcm := mem_comeL N ts l
  generalize comeL N ts l = xs at *
  have hf : fits22 (((N : Int), (ts, ())), l, ()) = some (decide (xs.length + ts.length ≤ 400), ()) := by
    rw [fits22_eq, fits22_d]
    simp only [hn, ieq_self', dlen_l]
    rw [wrap_add (by omega), ile_eq]
    congr 2
    exact decide_eq_decide.2 (by omega)
  simp only [hn, ieq_self', Bool.not_true, hf]
  by_cases hfit : ¬ xs.length + ts.length ≤ 400
  · left
    rw [decide_eq_false hfit]
    exact ⟨2, by omega, rfl⟩
  have hfit := Classical.not_not.1 hfit
  right
  rw [decide_eq_true hfit]
  obtain ⟨rings, hfo, hF⟩ := forest21_val h1 hN ts ht ho hr
  obtain ⟨zs, bs, hch, hz, hc, hb⟩ := choose20_val hF xs (by omega) hci
  have hlp := add22_loop (N : Int) ts xs bs (by omega) ht hb
  have hv0 : 0 ≤ topV N := by
    have : ((List.range 65).all fun k => decide (0 ≤ topV k)) = true := by kernel_rfl
    exact of_decide_eq_true (List.all_eq_true.1 this N (by simp; omega))
  have ho' : oks N (addT ts xs bs xs.length) := addT_oks ho hv0 bs hcp (fun e he => by
    obtain ⟨⟨a, b, c, _⟩, _⟩ := (hcm e).1 he
    exact ⟨a, b, c⟩) (fun e he => ((hcm e).1 he).2)
  refine ⟨h, by omega, bs, zs, rings, hb, hF, hz, hc, ho', addT_right h1 hN ht ho hr hb (by omega) ho' hF hz hc, ?_⟩
  have hd : dapp ([] : List Tie) ts = ts := by simp [dapp]
  simp only [Bool.not_true, hfo, hch, dlen_l, hd]
  rw [fits_l (by simp; omega)]
  simp only [hlp, dlen_l]
theorem joined22_val {N : Nat} (h1 : 1 ≤ N) (hN : N ≤ 64) {ts : List Tie} (ht : ts.length ≤ 400) (ho : oks N ts) (l : List Edge) (hs : l.length < 1073741824) (hr : right21 (((N : Int), (ts, ())), ()) = some (true, ())) (h : allIn N l)
    {o1 o2 : List Int} (c1 : ClOK (N : Int) (ts.map ed) o1) (c2 : ClOK (N : Int) (ts.map ed ++ comeL N ts l) o2) :
    joined22 (((N : Int), (ts, ())), l, ()) = some ((cnt o1 N : Int) - (cnt o2 N : Int), 0, ()) := by
  have hn := new22_val h1 hN ts ht l hs hr
  rw [if_pos (show ∀ e ∈ l, In (N : Int) e.1 ∧ In (N : Int) e.2.1 from h)] at hn
  have hcl := comeL_len N hN ts l
  have hci := comeL_in hN ts l
  have hei := eds_in hN ho
  generalize comeL N ts l = xs at *
  have k1 := count20_val h1 hN (ts.map ed) (by rw [List.length_map]; omega) hei c1
  have k2 := count20_val h1 hN (ts.map ed ++ xs) (by rw [List.length_append, List.length_map]; omega) (fun e he => by
    rcases List.mem_append.1 he with he | he
    · exact hei e he
    · exact hci e he) c2
  have b1 : cnt o1 N ≤ N := by
    have := List.length_filter_le (fun k => decide (o1.getD k 0 = (k : Int))) (List.range N)
    rw [List.length_range] at this
    exact this
  have b2 : cnt o2 N ≤ N := by
    have := List.length_filter_le (fun k => decide (o2.getD k 0 = (k : Int))) (List.range N)
    rw [List.length_range] at this
    exact this
  rw [joined22_eq, joined22_d]
  simp only [hn, ieq_self', Bool.not_true, edges21_val (N : Int) ts ht hr, k1, dapp_l, dlen_l]
  rw [fits_l (by rw [List.length_map]; omega)]
  simp only [k2]
  rw [wrap_in (by omega)]
end Go.Pev.Pl
end
section
namespace Go.Pev.Pl
set_option linter.unusedSimpArgs false
set_option maxRecDepth 100000
theorem u8_mod' {x : Int} (h : 0 ≤ x ∧ x ≤ 255) {N : Nat} (hN : 1 ≤ N) (hN2 : N ≤ 64) : ∃ q : Nat, rem? (IntKind.wrap .i64 x) (N : Int) = some (q : Int) ∧ q < N := by
  rw [wrap_in (by omega), rem_eq, remR, if_neg (by omega), Int.tmod_eq_emod_of_nonneg h.1]
  have h1 := Int.emod_nonneg x (show (N : Int) ≠ 0 by omega)
  have h2 := Int.emod_lt_of_pos x (show (0 : Int) < N by omega)
  exact ⟨(x % (N : Int)).toNat, by congr 1; omega, by omega⟩
end Go.Pev.Pl
end
section
namespace Go.Pev.Pl
open Tok
set_option linter.unusedSimpArgs false
set_option maxRecDepth 100000
theorem add22_bad (n : Int) (ts : List Tie) (l : List Edge) (hr : right21 ((n, (ts, ())), ()) = some (false, ())) : add22 ((n, (ts, ())), l, ()) = some (n, ts, 0, 1, ()) := by
  rw [add22_eq, add22_d, new22_eq, new22_d, asked22_eq, asked22_d]
  simp only [hr, Bool.not_false, ieq_dec]
  rfl
theorem sayGrows_true (g : Int × List Tie × Unit) (l : List Edge) (two : List Int) (h0 : wfD (.prod (.int .i64) (.prod (.slice (.prod (.int .i64) (.prod (.int .i64) (.prod (.int .i64) (.prod .bool .unit))))) .unit)) g) (hl : wfD (.slice (.prod (.int .i64) (.prod (.int .i64) .unit))) l) (h1 : wfD (.arr 2 (.int .u8)) two) :
    sayGrows (g, l, two, ()) = some (true, ()) := by
  obtain ⟨n, ts, ⟨⟩⟩ := g
  rw [sayGrows_eq, sayGrows_d]
  simp only [alive27_true, Bool.not_true, great27_eq, great27_d, dlen_l]
  by_cases g1 : 40 < ts.length
  · rw [ilt_eq, decide_eq_true (by omega)]
  rw [ilt_eq, decide_eq_false (by omega)]
  simp only []
  by_cases g12 : ilt (12 : Int) n = true
  · simp only [g12]
  have g12 : ilt (12 : Int) n = false := by simpa using g12
  simp only [g12]
  by_cases g3 : 20 < l.length
  · rw [ilt_eq, decide_eq_true (by omega)]
  rw [ilt_eq, decide_eq_false (by omega)]
  rcases graph_right n ts (by omega) with ⟨r1, _⟩ | ⟨N, out, rfl, q1, q2, q3, ho, hc, r1, r2, hoks⟩
  · simp only [add22_bad n ts l r1, ieq_dec]
    rfl
  rcases add22_val q1 q2 q3 hoks l (by omega) r1 with ⟨e, he, ha⟩ | ⟨hall, hfit, bs, zs, rings, hb, hF, hz, hcc, ho', hr', ha⟩
  · simp only [ha, ieq_dec, decide_eq_false he, Bool.not_false]
  have hj := fun {o2 : List Int} c2 => joined22_val q1 q2 q3 hoks l (by omega) r1 hall hc (o2 := o2) c2
  have hadd := addT_len ts (comeL N ts l) bs (comeL N ts l).length
  have heds := addT_eds ts (xs := comeL N ts l) hb
  generalize comeL N ts l = xs at *
  generalize addT ts xs bs xs.length = ts' at *
  rcases graph_right (N : Int) ts' (by omega) with ⟨s1, _⟩ | ⟨N', out', hN', p1, p2, p3, po, pc, s1, s2, poks⟩
  · rw [hr'] at s1; cases s1
  have : N' = N := by omega
  subst this
  have pc' : ClOK (N' : Int) (ts.map ed ++ xs) out' := ClOK.congr (fun a b => Con.perm fun e => heds.mem_iff) pc
  have hb' : ∀ k, 0 ≤ dget two k (0 : Int) ∧ dget two k (0 : Int) ≤ 255 := by
    intro k
    unfold dget
    by_cases h : k < two.length
    · have := h1.2 two[k] (List.getElem_mem h)
      have h' : 0 ≤ two[k] ∧ two[k] ≤ 255 := this
      simpa [h] using h'
    · simp [List.getElem?_eq_none (Nat.le_of_not_lt h)]
  obtain ⟨u, eu, hu⟩ := u8_mod' (hb' 0) q1 q2
  obtain ⟨v, ev, hv⟩ := u8_mod' (hb' 1) q1 q2
  have iu : InV N' (u : Int) := ⟨by omega, by omega⟩
  have iv : InV N' (v : Int) := ⟨by omega, by omega⟩
  have a1 : ∀ o : List Int, ans N' o ((1 : Int), ((u : Int), ((v : Int), ()))) = (if cl o (u : Int) = cl o (v : Int) then 1 else 0, 0, ()) := by intro o; simp [ans, iu, iv]
  have a3 : ∀ o : List Int, ans N' o ((3 : Int), ((u : Int), ((0 : Int), ()))) = ((cntC o N' (cl o (u : Int)) : Int), 0, ()) := by intro o; simp [ans, iu]
  have a4 : ∀ o : List Int, ans N' o ((4 : Int), ((0 : Int), ((0 : Int), ()))) = ((cnt o N' : Int), 0, ()) := by intro o; simp [ans]
  have hle := cntC_mono q1 q2 hc pc' (fun e he => List.mem_append.2 (.inl he)) hu
  have b1 : cnt out N' ≤ N' := by
    have := List.length_filter_le (fun k => decide (out.getD k 0 = (k : Int))) (List.range N')
    rw [List.length_range] at this
    exact this
  have b2 : cnt out' N' ≤ N' := by
    have := List.length_filter_le (fun k => decide (out'.getD k 0 = (k : Int))) (List.range N')
    rw [List.length_range] at this
    exact this
  have hin : ∀ k : Nat, k < N' → In (N' : Int) (k : Int) := fun k hk => ⟨by omega, by omega, by omega, by omega⟩
  have hsame : cl out (u : Int) = cl out (v : Int) → cl out' (u : Int) = cl out' (v : Int) := fun h =>
    (pc'.same _ _ (hin u hu) (hin v hv)).2 (((hc.same _ _ (hin u hu) (hin v hv)).1 h).mono fun e he => ⟨e, List.mem_append.2 (.inl he), .inl ⟨rfl, rfl⟩⟩)
  simp only [ha, ieq_self', Bool.not_true, eu, ev, sanswer_right q2 ho r2, sanswer_right q2 po s2, a1, a3, a4, hj pc']
  rw [wrap_in (by omega), ieq_dec, decide_eq_true (show (cnt out' N' : Int) = (cnt out N' : Int) - ((cnt out N' : Int) - (cnt out' N' : Int)) by omega), ile_eq, ile_eq, decide_eq_true (show (cntC out N' (cl out (u : Int)) : Int) ≤ (cntC out' N' (cl out' (u : Int)) : Int) by omega)]
  have : (if cl out (u : Int) = cl out (v : Int) then (1 : Int) else 0) ≤ (if cl out' (u : Int) = cl out' (v : Int) then (1 : Int) else 0) := by
    by_cases h : cl out (u : Int) = cl out (v : Int)
    · rw [if_pos h, if_pos (hsame h)]
      omega
    · rw [if_neg h]
      split <;> omega
  rw [decide_eq_true this]
end Go.Pev.Pl
end
section
namespace Go.Pev
open Go.Proofs
set_option maxRecDepth 100000
noncomputable section
-- archipelago/archipelagoref01.Ints
abbrev ints01_h : Hints := { loop := fun n => match n with | 0 => loopBy 0 26 ints01_i0 ints01_o0 ints01_s0 | _ => fun _ _ _ => none, fp := fun n => match n with | 6 => [[], [], [], [], [], [], [], [], []] | _ => [] }
theorem ints01_s0_ok : ∀ v, ints01_s0 v = roundOf Tryz.prog Env.none ints01_h 1 0 26 (loopOf Tryz.f21 0) ints01_i0 ints01_o0 v := by
  rintro ⟨a0, a1, a2, ⟨⟩⟩
  kernel_rfl
theorem ints01_q0 : loopList (loopOf Tryz.f21 0) 1 = [] := by kernel_rfl
theorem ints01_l0 : CodeOK Tryz.prog 0 (.loop (loopOf Tryz.f21 0)) (ints01_h.loop 0) := loop_ok Env.none_ok (ints01_s0_ok) (LoopsOK_of ints01_q0 trivial)
theorem ints01_okd : ∀ v, ints01_d v = pevCall Tryz.prog Env.none ints01_h Tryz.f21 ints01_i ints01_o ints01_r v := by
  rintro ⟨a0, a1, ⟨⟩⟩
  kernel_rfl
theorem ints01_q : loopList (bodyOf Tryz.f21) 0 = [(0, loopOf Tryz.f21 0)] := by kernel_rfl
theorem ints01_spec : SpecOK Tryz.prog 21 (mkCall 2 ints01_i ints01_o ints01_r ints01) := call_spec Env.none_ok Tryz.func21 (by kernel_rfl) (by kernel_rfl) rfl (fun v => (ints01_eq v).trans (ints01_okd v)) (LoopsOK_of ints01_q ⟨ints01_l0, trivial⟩)
def E_ints01 : Env := Env.none.ext 21 true true (mkCall 2 ints01_i ints01_o ints01_r ints01)
theorem E_ints01_ok : EnvOK Tryz.prog E_ints01 := Env.ext_ok Env.none_ok ints01_spec (fun _ => mkCall_local rfl rfl) (fun _ => mkCall_in rfl rfl)
-- archipelago/tour.sized
abbrev tsized_h : Hints := {  }
theorem tsized_okd : ∀ v, tsized_d v = pevCall Tryz.prog E_ints01 tsized_h Tryz.f122 tsized_i tsized_o tsized_r v := by
  rintro ⟨a0, ⟨⟩⟩
  kernel_rfl
theorem tsized_q : loopList (bodyOf Tryz.f122) 0 = [] := by kernel_rfl
theorem tsized_spec : SpecOK Tryz.prog 122 (mkCall 1 tsized_i tsized_o tsized_r tsized) := call_spec E_ints01_ok Tryz.func122 (by kernel_rfl) (by kernel_rfl) rfl (fun v => (tsized_eq v).trans (tsized_okd v)) (LoopsOK_of tsized_q trivial)
def E_tsized : Env := E_ints01.ext 122 true true (mkCall 1 tsized_i tsized_o tsized_r tsized)
theorem E_tsized_ok : EnvOK Tryz.prog E_tsized := Env.ext_ok E_ints01_ok tsized_spec (fun _ => mkCall_local rfl rfl) (fun _ => mkCall_in rfl rfl)
-- archipelago/tour.in
abbrev tin_h : Hints := {  }
theorem tin_okd : ∀ v, tin_d v = pevCall Tryz.prog E_tsized tin_h Tryz.f151 tin_i tin_o tin_r v := by
  rintro ⟨a0, a1, ⟨⟩⟩
  kernel_rfl
theorem tin_q : loopList (bodyOf Tryz.f151) 0 = [] := by kernel_rfl
theorem tin_spec : SpecOK Tryz.prog 151 (mkCall 2 tin_i tin_o tin_r tin) := call_spec E_tsized_ok Tryz.func151 (by kernel_rfl) (by kernel_rfl) rfl (fun v => (tin_eq v).trans (tin_okd v)) (LoopsOK_of tin_q trivial)
def E_tin : Env := E_tsized.ext 151 true true (mkCall 2 tin_i tin_o tin_r tin)
theorem E_tin_ok : EnvOK Tryz.prog E_tin := Env.ext_ok E_tsized_ok tin_spec (fun _ => mkCall_local rfl rfl) (fun _ => mkCall_in rfl rfl)
-- archipelago/tour.Arc
abbrev tarc_h : Hints := {  }
theorem tarc_okd : ∀ v, tarc_d v = pevCall Tryz.prog E_tin tarc_h Tryz.f147 tarc_i tarc_o tarc_r v := by
  rintro ⟨a0, a1, a2, ⟨⟩⟩
  kernel_rfl
theorem tarc_q : loopList (bodyOf Tryz.f147) 0 = [] := by kernel_rfl
theorem tarc_spec : SpecOK Tryz.prog 147 (mkCall 3 tarc_i tarc_o tarc_r tarc) := call_spec E_tin_ok Tryz.func147 (by kernel_rfl) (by kernel_rfl) rfl (fun v => (tarc_eq v).trans (tarc_okd v)) (LoopsOK_of tarc_q trivial)
def E_tarc : Env := E_tin.ext 147 true true (mkCall 3 tarc_i tarc_o tarc_r tarc)
theorem E_tarc_ok : EnvOK Tryz.prog E_tarc := Env.ext_ok E_tin_ok tarc_spec (fun _ => mkCall_local rfl rfl) (fun _ => mkCall_in rfl rfl)
-- archipelago/tour.Token
abbrev ttoken_h : Hints := { fp := fun n => match n with | 5 => [[], [], [], [], [], [], [], [], []] | _ => [] }
theorem ttoken_okd : ∀ v, ttoken_d v = pevCall Tryz.prog E_tarc ttoken_h Tryz.f152 ttoken_i ttoken_o ttoken_r v := by
  rintro ⟨a0, a1, ⟨⟩⟩
  kernel_rfl
theorem ttoken_q : loopList (bodyOf Tryz.f152) 0 = [] := by kernel_rfl
theorem ttoken_spec : SpecOK Tryz.prog 152 (mkCall 2 ttoken_i ttoken_o ttoken_r ttoken) := call_spec E_tarc_ok Tryz.func152 (by kernel_rfl) (by kernel_rfl) rfl (fun v => (ttoken_eq v).trans (ttoken_okd v)) (LoopsOK_of ttoken_q trivial)
def E_ttoken : Env := E_tarc.ext 152 true true (mkCall 2 ttoken_i ttoken_o ttoken_r ttoken)
theorem E_ttoken_ok : EnvOK Tryz.prog E_ttoken := Env.ext_ok E_tarc_ok ttoken_spec (fun _ => mkCall_local rfl rfl) (fun _ => mkCall_in rfl rfl)
-- archipelago/tour.Make
abbrev tmake_h : Hints := { loop := fun n => match n with | 0 => loopBy 0 25 tmake_i0 tmake_o0 tmake_s0 | _ => fun _ _ _ => none }
theorem tmake_s0_ok : ∀ v, tmake_s0 v = roundOf Tryz.prog E_ttoken tmake_h 1 0 25 (loopOf Tryz.f90 0) tmake_i0 tmake_o0 v := by
  rintro ⟨a0, a1, a2, a3, a4, ⟨⟩⟩
  kernel_rfl
theorem tmake_q0 : loopList (loopOf Tryz.f90 0) 1 = [] := by kernel_rfl
theorem tmake_l0 : CodeOK Tryz.prog 0 (.loop (loopOf Tryz.f90 0)) (tmake_h.loop 0) := loop_ok E_ttoken_ok (tmake_s0_ok) (LoopsOK_of tmake_q0 trivial)
theorem tmake_okd : ∀ v, tmake_d v = pevCall Tryz.prog E_ttoken tmake_h Tryz.f90 tmake_i tmake_o tmake_r v := by
  rintro ⟨a0, ⟨⟩⟩
  kernel_rfl
theorem tmake_q : loopList (bodyOf Tryz.f90) 0 = [(0, loopOf Tryz.f90 0)] := by kernel_rfl
theorem tmake_spec : SpecOK Tryz.prog 90 (mkCall 1 tmake_i tmake_o tmake_r tmake) := call_spec E_ttoken_ok Tryz.func90 (by kernel_rfl) (by kernel_rfl) rfl (fun v => (tmake_eq v).trans (tmake_okd v)) (LoopsOK_of tmake_q ⟨tmake_l0, trivial⟩)
def E_tmake : Env := E_ttoken.ext 90 true true (mkCall 1 tmake_i tmake_o tmake_r tmake)
theorem E_tmake_ok : EnvOK Tryz.prog E_tmake := Env.ext_ok E_ttoken_ok tmake_spec (fun _ => mkCall_local rfl rfl) (fun _ => mkCall_in rfl rfl)
-- slices.Index[[]int,int]
abbrev indexI_h : Hints := { loop := fun n => match n with | 0 => loopBy 0 19 indexI_i0 indexI_o0 indexI_s0 | _ => fun _ _ _ => none }
theorem indexI_s0_ok : ∀ v, indexI_s0 v = roundOf Tryz.prog E_tmake indexI_h 1 0 19 (loopOf Tryz.f167 0) indexI_i0 indexI_o0 v := by
  rintro ⟨a0, a1, a2, a3, ⟨⟩⟩
  kernel_rfl
theorem indexI_q0 : loopList (loopOf Tryz.f167 0) 1 = [] := by kernel_rfl
theorem indexI_l0 : CodeOK Tryz.prog 0 (.loop (loopOf Tryz.f167 0)) (indexI_h.loop 0) := loop_ok E_tmake_ok (indexI_s0_ok) (LoopsOK_of indexI_q0 trivial)
theorem indexI_okd : ∀ v, indexI_d v = pevCall Tryz.prog E_tmake indexI_h Tryz.f167 indexI_i indexI_o indexI_r v := by
  rintro ⟨a0, a1, ⟨⟩⟩
  kernel_rfl
theorem indexI_q : loopList (bodyOf Tryz.f167) 0 = [(0, loopOf Tryz.f167 0)] := by kernel_rfl
theorem indexI_spec : SpecOK Tryz.prog 167 (mkCall 2 indexI_i indexI_o indexI_r indexI) := call_spec E_tmake_ok Tryz.func167 (by kernel_rfl) (by kernel_rfl) rfl (fun v => (indexI_eq v).trans (indexI_okd v)) (LoopsOK_of indexI_q ⟨indexI_l0, trivial⟩)
def E_indexI : Env := E_tmake.ext 167 true true (mkCall 2 indexI_i indexI_o indexI_r indexI)
theorem E_indexI_ok : EnvOK Tryz.prog E_indexI := Env.ext_ok E_tmake_ok indexI_spec (fun _ => mkCall_local rfl rfl) (fun _ => mkCall_in rfl rfl)
-- slices.Contains[[]int,int]
abbrev containsI_h : Hints := {  }
theorem containsI_okd : ∀ v, containsI_d v = pevCall Tryz.prog E_indexI containsI_h Tryz.f161 containsI_i containsI_o containsI_r v := by
  rintro ⟨a0, a1, ⟨⟩⟩
  kernel_rfl
theorem containsI_q : loopList (bodyOf Tryz.f161) 0 = [] := by kernel_rfl
theorem containsI_spec : SpecOK Tryz.prog 161 (mkCall 2 containsI_i containsI_o containsI_r containsI) := call_spec E_indexI_ok Tryz.func161 (by kernel_rfl) (by kernel_rfl) rfl (fun v => (containsI_eq v).trans (containsI_okd v)) (LoopsOK_of containsI_q trivial)
def E_containsI : Env := E_indexI.ext 161 true true (mkCall 2 containsI_i containsI_o containsI_r containsI)
theorem E_containsI_ok : EnvOK Tryz.prog E_containsI := Env.ext_ok E_indexI_ok containsI_spec (fun _ => mkCall_local rfl rfl) (fun _ => mkCall_in rfl rfl)
-- slices.Min[[]int,int]
abbrev minI_h : Hints := { loop := fun n => match n with | 0 => loopBy 0 25 minI_i0 minI_o0 minI_s0 | _ => fun _ _ _ => none }
theorem minI_s0_ok : ∀ v, minI_s0 v = roundOf Tryz.prog E_containsI minI_h 1 0 25 (loopOf Tryz.f126 0) minI_i0 minI_o0 v := by
  rintro ⟨a0, a1, a2, ⟨⟩⟩
  kernel_rfl
theorem minI_q0 : loopList (loopOf Tryz.f126 0) 1 = [] := by kernel_rfl
theorem minI_l0 : CodeOK Tryz.prog 0 (.loop (loopOf Tryz.f126 0)) (minI_h.loop 0) := loop_ok E_containsI_ok (minI_s0_ok) (LoopsOK_of minI_q0 trivial)
theorem minI_okd : ∀ v, minI_d v = pevCall Tryz.prog E_containsI minI_h Tryz.f126 minI_i minI_o minI_r v := by
  rintro ⟨a0, ⟨⟩⟩
  kernel_rfl
theorem minI_q : loopList (bodyOf Tryz.f126) 0 = [(0, loopOf Tryz.f126 0)] := by kernel_rfl
theorem minI_spec : SpecOK Tryz.prog 126 (mkCall 1 minI_i minI_o minI_r minI) := call_spec E_containsI_ok Tryz.func126 (by kernel_rfl) (by kernel_rfl) rfl (fun v => (minI_eq v).trans (minI_okd v)) (LoopsOK_of minI_q ⟨minI_l0, trivial⟩)
def E_minI : Env := E_containsI.ext 126 true true (mkCall 1 minI_i minI_o minI_r minI)
theorem E_minI_ok : EnvOK Tryz.prog E_minI := Env.ext_ok E_containsI_ok minI_spec (fun _ => mkCall_local rfl rfl) (fun _ => mkCall_in rfl rfl)
-- slices.Grow[[]int,int]
abbrev growI_h : Hints := {  }
theorem growI_okd : ∀ v, growI_d v = pevCall Tryz.prog E_minI growI_h Tryz.f78 growI_i growI_o growI_r v := by
  rintro ⟨a0, ⟨⟩⟩
  kernel_rfl
theorem growI_q : loopList (bodyOf Tryz.f78) 0 = [] := by kernel_rfl
theorem growI_spec : SpecOK Tryz.prog 78 (mkCall 2 growI_i growI_o growI_r growI) := call_spec E_minI_ok Tryz.func78 (by kernel_rfl) (by kernel_rfl) rfl (fun v => (growI_eq v).trans (growI_okd v)) (LoopsOK_of growI_q trivial)
def E_growI : Env := E_minI.ext 78 false true (mkCall 2 growI_i growI_o growI_r growI)
theorem E_growI_ok : EnvOK Tryz.prog E_growI := Env.ext_ok E_minI_ok growI_spec ((by simp)) (fun _ => mkCall_in rfl rfl)
-- slices.Concat[[]int,int]
abbrev concatI_h : Hints := { loop := fun n => match n with | 0 => loopBy 0 36 concatI_i0 concatI_o0 concatI_s0 | 1 => loopBy 0 36 concatI_i1 concatI_o1 concatI_s1 | _ => fun _ _ _ => none }
theorem concatI_s1_ok : ∀ v, concatI_s1 v = roundOf Tryz.prog E_growI concatI_h 2 0 36 (loopOf Tryz.f49 1) concatI_i1 concatI_o1 v := by
  rintro ⟨a0, a1, a2, a3, ⟨⟩⟩
  kernel_rfl
theorem concatI_q1 : loopList (loopOf Tryz.f49 1) 2 = [] := by kernel_rfl
theorem concatI_l1 : CodeOK Tryz.prog 0 (.loop (loopOf Tryz.f49 1)) (concatI_h.loop 1) := loop_ok E_growI_ok (concatI_s1_ok) (LoopsOK_of concatI_q1 trivial)
theorem concatI_s0_ok : ∀ v, concatI_s0 v = roundOf Tryz.prog E_growI concatI_h 1 0 36 (loopOf Tryz.f49 0) concatI_i0 concatI_o0 v := by
  rintro ⟨a0, a1, a2, a3, a4, ⟨⟩⟩
  kernel_rfl
theorem concatI_q0 : loopList (loopOf Tryz.f49 0) 1 = [] := by kernel_rfl
theorem concatI_l0 : CodeOK Tryz.prog 0 (.loop (loopOf Tryz.f49 0)) (concatI_h.loop 0) := loop_ok E_growI_ok (concatI_s0_ok) (LoopsOK_of concatI_q0 trivial)
theorem concatI_okd : ∀ v, concatI_d v = pevCall Tryz.prog E_growI concatI_h Tryz.f49 concatI_i concatI_o concatI_r v := by
  rintro ⟨a0, ⟨⟩⟩
  kernel_rfl
theorem concatI_q : loopList (bodyOf Tryz.f49) 0 = [(0, loopOf Tryz.f49 0), (1, loopOf Tryz.f49 1)] := by kernel_rfl
theorem concatI_spec : SpecOK Tryz.prog 49 (mkCall 1 concatI_i concatI_o concatI_r concatI) := call_spec E_growI_ok Tryz.func49 (by kernel_rfl) (by kernel_rfl) rfl (fun v => (concatI_eq v).trans (concatI_okd v)) (LoopsOK_of concatI_q ⟨concatI_l0, concatI_l1, trivial⟩)
def E_concatI : Env := E_growI.ext 49 true true (mkCall 1 concatI_i concatI_o concatI_r concatI)
theorem E_concatI_ok : EnvOK Tryz.prog E_concatI := Env.ext_ok E_growI_ok concatI_spec (fun _ => mkCall_local rfl rfl) (fun _ => mkCall_in rfl rfl)
-- archipelago/ring.Right$1: gone through in place
theorem ringOdd_b : Tryz.f149.body.isSome = true := by kernel_rfl
theorem ringOdd_n : (Tryz.f149.name == "runtime.NumGoroutine") = false := by kernel_rfl
theorem ringOdd_z : loops (bodyOf Tryz.f149) = 0 := by kernel_rfl
def E_ringOdd_1 : Env := E_concatI.ext 149 false false (mkInline Tryz.prog E_concatI {} Tryz.f149)
theorem E_ringOdd_1_ok : EnvOK Tryz.prog E_ringOdd_1 := Env.ext_ok E_concatI_ok (inline_spec E_concatI_ok Tryz.func149 ringOdd_b ringOdd_n ringOdd_z) (by simp) (by simp)
end
end Go.Pev
end
section
namespace Go.Pev
open Go.Proofs
set_option maxRecDepth 100000
noncomputable section
-- slices.IndexFunc[[]int,int]
abbrev idxFuncI_odd_h : Hints := { loop := fun n => match n with | 0 => loopBy 0 19 idxFuncI_odd_i0 idxFuncI_odd_o0 idxFuncI_odd_s0 | _ => fun _ _ _ => none }
theorem idxFuncI_odd_s0_ok : ∀ v, idxFuncI_odd_s0 v = roundOf Tryz.prog E_ringOdd_1 idxFuncI_odd_h 1 0 19 (loopOf Tryz.f79 0) idxFuncI_odd_i0 idxFuncI_odd_o0 v := by
  rintro ⟨a0, a1, a2, ⟨⟩⟩
  kernel_rfl
theorem idxFuncI_odd_q0 : loopList (loopOf Tryz.f79 0) 1 = [] := by kernel_rfl
theorem idxFuncI_odd_l0 : CodeOK Tryz.prog 0 (.loop (loopOf Tryz.f79 0)) (idxFuncI_odd_h.loop 0) := loop_ok E_ringOdd_1_ok (idxFuncI_odd_s0_ok) (LoopsOK_of idxFuncI_odd_q0 trivial)
theorem idxFuncI_odd_okd : ∀ v, idxFuncI_odd_d v = pevCall Tryz.prog E_ringOdd_1 idxFuncI_odd_h Tryz.f79 idxFuncI_odd_i idxFuncI_odd_o idxFuncI_odd_r v := by
  rintro ⟨a0, ⟨⟩⟩
  kernel_rfl
theorem idxFuncI_odd_q : loopList (bodyOf Tryz.f79) 0 = [(0, loopOf Tryz.f79 0)] := by kernel_rfl
theorem idxFuncI_odd_spec : SpecOK Tryz.prog 79 (mkCall 2 idxFuncI_odd_i idxFuncI_odd_o idxFuncI_odd_r idxFuncI_odd) := call_spec E_ringOdd_1_ok Tryz.func79 (by kernel_rfl) (by kernel_rfl) rfl (fun v => (idxFuncI_odd_eq v).trans (idxFuncI_odd_okd v)) (LoopsOK_of idxFuncI_odd_q ⟨idxFuncI_odd_l0, trivial⟩)
def E_idxFuncI_odd : Env := E_ringOdd_1.extC 79 1 149 (mkCall 2 idxFuncI_odd_i idxFuncI_odd_o idxFuncI_odd_r idxFuncI_odd)
theorem E_idxFuncI_odd_ok : EnvOK Tryz.prog E_idxFuncI_odd := Env.extC_ok E_ringOdd_1_ok idxFuncI_odd_spec (mkCall_in rfl rfl)
-- slices.ContainsFunc[[]int,int]
abbrev contFuncI_odd_h : Hints := {  }
theorem contFuncI_odd_okd : ∀ v, contFuncI_odd_d v = pevCall Tryz.prog E_idxFuncI_odd contFuncI_odd_h Tryz.f50 contFuncI_odd_i contFuncI_odd_o contFuncI_odd_r v := by
  rintro ⟨a0, ⟨⟩⟩
  kernel_rfl
theorem contFuncI_odd_q : loopList (bodyOf Tryz.f50) 0 = [] := by kernel_rfl
theorem contFuncI_odd_spec : SpecOK Tryz.prog 50 (mkCall 2 contFuncI_odd_i contFuncI_odd_o contFuncI_odd_r contFuncI_odd) := call_spec E_idxFuncI_odd_ok Tryz.func50 (by kernel_rfl) (by kernel_rfl) rfl (fun v => (contFuncI_odd_eq v).trans (contFuncI_odd_okd v)) (LoopsOK_of contFuncI_odd_q trivial)
def E_contFuncI_odd : Env := E_idxFuncI_odd.extC 50 1 149 (mkCall 2 contFuncI_odd_i contFuncI_odd_o contFuncI_odd_r contFuncI_odd)
theorem E_contFuncI_odd_ok : EnvOK Tryz.prog E_contFuncI_odd := Env.extC_ok E_idxFuncI_odd_ok contFuncI_odd_spec (mkCall_in rfl rfl)
-- archipelago/ring.once[int]
abbrev once_h : Hints := { loop := fun n => match n with | 0 => loopBy 0 23 once_i0 once_o0 once_s0 | _ => fun _ _ _ => none }
theorem once_s0_ok : ∀ v, once_s0 v = roundOf Tryz.prog E_contFuncI_odd once_h 1 0 23 (loopOf Tryz.f150 0) once_i0 once_o0 v := by
  rintro ⟨a0, a1, a2, a3, a4, ⟨⟩⟩
  kernel_rfl
theorem once_q0 : loopList (loopOf Tryz.f150 0) 1 = [] := by kernel_rfl
theorem once_l0 : CodeOK Tryz.prog 0 (.loop (loopOf Tryz.f150 0)) (once_h.loop 0) := loop_ok E_contFuncI_odd_ok (once_s0_ok) (LoopsOK_of once_q0 trivial)
theorem once_okd : ∀ v, once_d v = pevCall Tryz.prog E_contFuncI_odd once_h Tryz.f150 once_i once_o once_r v := by
  rintro ⟨a0, ⟨⟩⟩
  kernel_rfl
theorem once_q : loopList (bodyOf Tryz.f150) 0 = [(0, loopOf Tryz.f150 0)] := by kernel_rfl
theorem once_spec : SpecOK Tryz.prog 150 (mkCall 1 once_i once_o once_r once) := call_spec E_contFuncI_odd_ok Tryz.func150 (by kernel_rfl) (by kernel_rfl) rfl (fun v => (once_eq v).trans (once_okd v)) (LoopsOK_of once_q ⟨once_l0, trivial⟩)
def E_once : Env := E_contFuncI_odd.ext 150 true true (mkCall 1 once_i once_o once_r once)
theorem E_once_ok : EnvOK Tryz.prog E_once := Env.ext_ok E_contFuncI_odd_ok once_spec (fun _ => mkCall_local rfl rfl) (fun _ => mkCall_in rfl rfl)
-- archipelago/ring.Right
abbrev rright_h : Hints := {  }
theorem rright_okd : ∀ v, rright_d v = pevCall Tryz.prog E_once rright_h Tryz.f125 rright_i rright_o rright_r v := by
  rintro ⟨a0, ⟨⟩⟩
  kernel_rfl
theorem rright_q : loopList (bodyOf Tryz.f125) 0 = [] := by kernel_rfl
theorem rright_spec : SpecOK Tryz.prog 125 (mkCall 1 rright_i rright_o rright_r rright) := call_spec E_once_ok Tryz.func125 (by kernel_rfl) (by kernel_rfl) rfl (fun v => (rright_eq v).trans (rright_okd v)) (LoopsOK_of rright_q trivial)
def E_rright : Env := E_once.ext 125 true true (mkCall 1 rright_i rright_o rright_r rright)
theorem E_rright_ok : EnvOK Tryz.prog E_rright := Env.ext_ok E_once_ok rright_spec (fun _ => mkCall_local rfl rfl) (fun _ => mkCall_in rfl rfl)
-- archipelago/ring.turned
abbrev turned_h : Hints := { fp := fun n => match n with | 1 => [[], [], [], [], [], [], [], [0], []] | _ => [] }
theorem turned_okd : ∀ v, turned_d v = pevCall Tryz.prog E_rright turned_h Tryz.f163 turned_i turned_o turned_r v := by
  rintro ⟨a0, a1, ⟨⟩⟩
  kernel_rfl
theorem turned_q : loopList (bodyOf Tryz.f163) 0 = [] := by kernel_rfl
theorem turned_spec : SpecOK Tryz.prog 163 (mkCall 2 turned_i turned_o turned_r turned) := call_spec E_rright_ok Tryz.func163 (by kernel_rfl) (by kernel_rfl) rfl (fun v => (turned_eq v).trans (turned_okd v)) (LoopsOK_of turned_q trivial)
def E_turned : Env := E_rright.ext 163 true true (mkCall 2 turned_i turned_o turned_r turned)
theorem E_turned_ok : EnvOK Tryz.prog E_turned := Env.ext_ok E_rright_ok turned_spec (fun _ => mkCall_local rfl rfl) (fun _ => mkCall_in rfl rfl)
-- archipelago/ring.places
abbrev places_h : Hints := { loop := fun n => match n with | 0 => loopBy 0 29 places_i0 places_o0 places_s0 | _ => fun _ _ _ => none }
theorem places_s0_ok : ∀ v, places_s0 v = roundOf Tryz.prog E_turned places_h 1 0 29 (loopOf Tryz.f162 0) places_i0 places_o0 v := by
  rintro ⟨a0, a1, a2, a3, a4, ⟨⟩⟩
  kernel_rfl
theorem places_q0 : loopList (loopOf Tryz.f162 0) 1 = [] := by kernel_rfl
theorem places_l0 : CodeOK Tryz.prog 0 (.loop (loopOf Tryz.f162 0)) (places_h.loop 0) := loop_ok E_turned_ok (places_s0_ok) (LoopsOK_of places_q0 trivial)
theorem places_okd : ∀ v, places_d v = pevCall Tryz.prog E_turned places_h Tryz.f162 places_i places_o places_r v := by
  rintro ⟨a0, a1, ⟨⟩⟩
  kernel_rfl
theorem places_q : loopList (bodyOf Tryz.f162) 0 = [(0, loopOf Tryz.f162 0)] := by kernel_rfl
theorem places_spec : SpecOK Tryz.prog 162 (mkCall 2 places_i places_o places_r places) := call_spec E_turned_ok Tryz.func162 (by kernel_rfl) (by kernel_rfl) rfl (fun v => (places_eq v).trans (places_okd v)) (LoopsOK_of places_q ⟨places_l0, trivial⟩)
def E_places : Env := E_turned.ext 162 true true (mkCall 2 places_i places_o places_r places)
theorem E_places_ok : EnvOK Tryz.prog E_places := Env.ext_ok E_turned_ok places_spec (fun _ => mkCall_local rfl rfl) (fun _ => mkCall_in rfl rfl)
-- archipelago/ring.From
abbrev rfrom_h : Hints := {  }
theorem rfrom_okd : ∀ v, rfrom_d v = pevCall Tryz.prog E_places rfrom_h Tryz.f146 rfrom_i rfrom_o rfrom_r v := by
  rintro ⟨a0, a1, ⟨⟩⟩
  kernel_rfl
theorem rfrom_q : loopList (bodyOf Tryz.f146) 0 = [] := by kernel_rfl
theorem rfrom_spec : SpecOK Tryz.prog 146 (mkCall 2 rfrom_i rfrom_o rfrom_r rfrom) := call_spec E_places_ok Tryz.func146 (by kernel_rfl) (by kernel_rfl) rfl (fun v => (rfrom_eq v).trans (rfrom_okd v)) (LoopsOK_of rfrom_q trivial)
def E_rfrom : Env := E_places.ext 146 true true (mkCall 2 rfrom_i rfrom_o rfrom_r rfrom)
theorem E_rfrom_ok : EnvOK Tryz.prog E_rfrom := Env.ext_ok E_places_ok rfrom_spec (fun _ => mkCall_local rfl rfl) (fun _ => mkCall_in rfl rfl)
-- archipelago/ring.Plain
abbrev rplain_h : Hints := {  }
theorem rplain_okd : ∀ v, rplain_d v = pevCall Tryz.prog E_rfrom rplain_h Tryz.f164 rplain_i rplain_o rplain_r v := by
  rintro ⟨a0, ⟨⟩⟩
  kernel_rfl
theorem rplain_q : loopList (bodyOf Tryz.f164) 0 = [] := by kernel_rfl
theorem rplain_spec : SpecOK Tryz.prog 164 (mkCall 1 rplain_i rplain_o rplain_r rplain) := call_spec E_rfrom_ok Tryz.func164 (by kernel_rfl) (by kernel_rfl) rfl (fun v => (rplain_eq v).trans (rplain_okd v)) (LoopsOK_of rplain_q trivial)
def E_rplain : Env := E_rfrom.ext 164 true true (mkCall 1 rplain_i rplain_o rplain_r rplain)
theorem E_rplain_ok : EnvOK Tryz.prog E_rplain := Env.ext_ok E_rfrom_ok rplain_spec (fun _ => mkCall_local rfl rfl) (fun _ => mkCall_in rfl rfl)
-- archipelago/tour.place$1: gone through in place
theorem tplace1_b : Tryz.f160.body.isSome = true := by kernel_rfl
theorem tplace1_n : (Tryz.f160.name == "runtime.NumGoroutine") = false := by kernel_rfl
theorem tplace1_z : loops (bodyOf Tryz.f160) = 0 := by kernel_rfl
def E_tplace1_2 : Env := E_rplain.ext 160 false false (mkInline Tryz.prog E_rplain {} Tryz.f160)
theorem E_tplace1_2_ok : EnvOK Tryz.prog E_tplace1_2 := Env.ext_ok E_rplain_ok (inline_spec E_rplain_ok Tryz.func160 tplace1_b tplace1_n tplace1_z) (by simp) (by simp)
-- slices.IndexFunc[[][]int,[]int]
abbrev idxFuncL_place_h : Hints := { loop := fun n => match n with | 0 => loopBy 1 19 idxFuncL_place_i0 idxFuncL_place_o0 idxFuncL_place_s0 | _ => fun _ _ _ => none }
theorem idxFuncL_place_s0_ok : ∀ v, idxFuncL_place_s0 v = roundOf Tryz.prog E_tplace1_2 idxFuncL_place_h 1 1 19 (loopOf Tryz.f159 0) idxFuncL_place_i0 idxFuncL_place_o0 v := by
  rintro ⟨a0, a1, a2, a3, ⟨⟩⟩
  kernel_rfl
theorem idxFuncL_place_q0 : loopList (loopOf Tryz.f159 0) 1 = [] := by kernel_rfl
theorem idxFuncL_place_l0 : CodeOK Tryz.prog 1 (.loop (loopOf Tryz.f159 0)) (idxFuncL_place_h.loop 0) := loop_ok E_tplace1_2_ok (idxFuncL_place_s0_ok) (LoopsOK_of idxFuncL_place_q0 trivial)
theorem idxFuncL_place_okd : ∀ v, idxFuncL_place_d v = pevCall Tryz.prog E_tplace1_2 idxFuncL_place_h Tryz.f159 idxFuncL_place_i idxFuncL_place_o idxFuncL_place_r v := by
  rintro ⟨a0, a1, ⟨⟩⟩
  kernel_rfl
theorem idxFuncL_place_q : loopList (bodyOf Tryz.f159) 0 = [(0, loopOf Tryz.f159 0)] := by kernel_rfl
theorem idxFuncL_place_spec : SpecOK Tryz.prog 159 (mkCall 2 idxFuncL_place_i idxFuncL_place_o idxFuncL_place_r idxFuncL_place) := call_spec E_tplace1_2_ok Tryz.func159 (by kernel_rfl) (by kernel_rfl) rfl (fun v => (idxFuncL_place_eq v).trans (idxFuncL_place_okd v)) (LoopsOK_of idxFuncL_place_q ⟨idxFuncL_place_l0, trivial⟩)
def E_idxFuncL_place : Env := E_tplace1_2.extC 159 1 160 (mkCall 2 idxFuncL_place_i idxFuncL_place_o idxFuncL_place_r idxFuncL_place)
theorem E_idxFuncL_place_ok : EnvOK Tryz.prog E_idxFuncL_place := Env.extC_ok E_tplace1_2_ok idxFuncL_place_spec (mkCall_in rfl rfl)
-- archipelago/tour.place
abbrev tplace_h : Hints := {  }
theorem tplace_okd : ∀ v, tplace_d v = pevCall Tryz.prog E_idxFuncL_place tplace_h Tryz.f145 tplace_i tplace_o tplace_r v := by
  rintro ⟨a0, a1, ⟨⟩⟩
  kernel_rfl
theorem tplace_q : loopList (bodyOf Tryz.f145) 0 = [] := by kernel_rfl
theorem tplace_spec : SpecOK Tryz.prog 145 (mkCall 2 tplace_i tplace_o tplace_r tplace) := call_spec E_idxFuncL_place_ok Tryz.func145 (by kernel_rfl) (by kernel_rfl) rfl (fun v => (tplace_eq v).trans (tplace_okd v)) (LoopsOK_of tplace_q trivial)
def E_tplace : Env := E_idxFuncL_place.ext 145 true true (mkCall 2 tplace_i tplace_o tplace_r tplace)
theorem E_tplace_ok : EnvOK Tryz.prog E_tplace := Env.ext_ok E_idxFuncL_place_ok tplace_spec (fun _ => mkCall_local rfl rfl) (fun _ => mkCall_in rfl rfl)
-- (*archipelago/tour.walk).along: gone through in place
theorem along_b : Tryz.f153.body.isSome = true := by kernel_rfl
theorem along_n : (Tryz.f153.name == "runtime.NumGoroutine") = false := by kernel_rfl
theorem along_z : loops (bodyOf Tryz.f153) = 0 := by kernel_rfl
def E_along_3 : Env := E_tplace.ext 153 false false (mkInline Tryz.prog E_tplace {} Tryz.f153)
theorem E_along_3_ok : EnvOK Tryz.prog E_along_3 := Env.ext_ok E_tplace_ok (inline_spec E_tplace_ok Tryz.func153 along_b along_n along_z) (by simp) (by simp)
end
end Go.Pev
end
section
namespace Go.Pev
open Go.Proofs
set_option maxRecDepth 100000
noncomputable section
-- archipelago/tour.goes
abbrev goes_h : Hints := { loop := fun n => match n with | 0 => loopBy 0 107 goes_i0 goes_o0 goes_s0 | _ => fun _ _ _ => none, fp := fun n => match n with | 8 => [[], [], [], [], [], [], [], [], [1000003], [], [], [], [], [], [], [], [], [0], [0], [0], [], [0], [0], [0], [2, 26], [], [2, 26], [2, 26], [], [], [], [], []] | 13 => [[], [0], [0], [0], [2], [], [], [], [0], [0], [0], [6], [], [0], [0], [0], [4], [], [], []] | 3 => [[], [], [], [], [], [], [], [], [11], [], [], [], [8, 10, 12], []] | _ => [] }
theorem goes_s0_ok : ∀ v, goes_s0 v = roundOf Tryz.prog E_along_3 goes_h 1 0 107 (loopOf Tryz.f127 0) goes_i0 goes_o0 v := by
  rintro ⟨a0, a1, a2, a3, a4, a5, a6, ⟨⟩⟩
  kernel_rfl
theorem goes_q0 : loopList (loopOf Tryz.f127 0) 1 = [] := by kernel_rfl
theorem goes_l0 : CodeOK Tryz.prog 0 (.loop (loopOf Tryz.f127 0)) (goes_h.loop 0) := loop_ok E_along_3_ok (goes_s0_ok) (LoopsOK_of goes_q0 trivial)
theorem goes_okd : ∀ v, goes_d v = pevCall Tryz.prog E_along_3 goes_h Tryz.f127 goes_i goes_o goes_r v := by
  rintro ⟨a0, a1, ⟨⟩⟩
  kernel_rfl
theorem goes_q : loopList (bodyOf Tryz.f127) 0 = [(0, loopOf Tryz.f127 0)] := by kernel_rfl
theorem goes_spec : SpecOK Tryz.prog 127 (mkCall 2 goes_i goes_o goes_r goes) := call_spec E_along_3_ok Tryz.func127 (by kernel_rfl) (by kernel_rfl) rfl (fun v => (goes_eq v).trans (goes_okd v)) (LoopsOK_of goes_q ⟨goes_l0, trivial⟩)
def E_goes : Env := E_along_3.ext 127 true true (mkCall 2 goes_i goes_o goes_r goes)
theorem E_goes_ok : EnvOK Tryz.prog E_goes := Env.ext_ok E_along_3_ok goes_spec (fun _ => mkCall_local rfl rfl) (fun _ => mkCall_in rfl rfl)
-- archipelago/tour.Right
abbrev tright_h : Hints := { loop := fun n => match n with | 0 => loopBy 0 87 tright_i0 tright_o0 tright_s0 | 1 => loopBy 0 87 tright_i1 tright_o1 tright_s1 | 2 => loopBy 0 87 tright_i2 tright_o2 tright_s2 | _ => fun _ _ _ => none, fp := fun n => match n with | 8 => [[], [], [], [], [], [], [], [], [], [], [], [], [], [], [], [], [], [], [], [], [], [], [], [], [0], [0], [], [], [], []] | _ => [] }
theorem tright_s2_ok : ∀ v, tright_s2 v = roundOf Tryz.prog E_goes tright_h 3 0 87 (loopOf Tryz.f92 2) tright_i2 tright_o2 v := by
  rintro ⟨a0, a1, a2, ⟨⟩⟩
  kernel_rfl
theorem tright_q2 : loopList (loopOf Tryz.f92 2) 3 = [] := by kernel_rfl
theorem tright_l2 : CodeOK Tryz.prog 0 (.loop (loopOf Tryz.f92 2)) (tright_h.loop 2) := loop_ok E_goes_ok (tright_s2_ok) (LoopsOK_of tright_q2 trivial)
theorem tright_s1_ok : ∀ v, tright_s1 v = roundOf Tryz.prog E_goes tright_h 2 0 87 (loopOf Tryz.f92 1) tright_i1 tright_o1 v := by
  rintro ⟨a0, a1, a2, a3, a4, a5, a6, a7, a8, a9, a10, a11, a12, a13, a14, a15, a16, a17, a18, a19, a20, a21, a22, a23, a24, a25, ⟨⟩⟩
  kernel_rfl
theorem tright_q1 : loopList (loopOf Tryz.f92 1) 2 = [] := by kernel_rfl
theorem tright_l1 : CodeOK Tryz.prog 0 (.loop (loopOf Tryz.f92 1)) (tright_h.loop 1) := loop_ok E_goes_ok (tright_s1_ok) (LoopsOK_of tright_q1 trivial)
theorem tright_s0_ok : ∀ v, tright_s0 v = roundOf Tryz.prog E_goes tright_h 1 0 87 (loopOf Tryz.f92 0) tright_i0 tright_o0 v := by
  rintro ⟨a0, a1, a2, a3, a4, a5, a6, ⟨⟩⟩
  kernel_rfl
theorem tright_q0 : loopList (loopOf Tryz.f92 0) 1 = [(1, loopOf Tryz.f92 1)] := by kernel_rfl
theorem tright_l0 : CodeOK Tryz.prog 0 (.loop (loopOf Tryz.f92 0)) (tright_h.loop 0) := loop_ok E_goes_ok (tright_s0_ok) (LoopsOK_of tright_q0 ⟨tright_l1, trivial⟩)
theorem tright_okd : ∀ v, tright_d v = pevCall Tryz.prog E_goes tright_h Tryz.f92 tright_i tright_o tright_r v := by
  rintro ⟨a0, ⟨⟩⟩
  kernel_rfl
theorem tright_q : loopList (bodyOf Tryz.f92) 0 = [(0, loopOf Tryz.f92 0), (2, loopOf Tryz.f92 2)] := by kernel_rfl
theorem tright_spec : SpecOK Tryz.prog 92 (mkCall 1 tright_i tright_o tright_r tright) := call_spec E_goes_ok Tryz.func92 (by kernel_rfl) (by kernel_rfl) rfl (fun v => (tright_eq v).trans (tright_okd v)) (LoopsOK_of tright_q ⟨tright_l0, tright_l2, trivial⟩)
def E_tright : Env := E_goes.ext 92 true true (mkCall 1 tright_i tright_o tright_r tright)
theorem E_tright_ok : EnvOK Tryz.prog E_tright := Env.ext_ok E_goes_ok tright_spec (fun _ => mkCall_local rfl rfl) (fun _ => mkCall_in rfl rfl)
-- archipelago/tour.asked
abbrev asked_h : Hints := {  }
theorem asked_okd : ∀ v, asked_d v = pevCall Tryz.prog E_tright asked_h Tryz.f144 asked_i asked_o asked_r v := by
  rintro ⟨a0, a1, a2, ⟨⟩⟩
  kernel_rfl
theorem asked_q : loopList (bodyOf Tryz.f144) 0 = [] := by kernel_rfl
theorem asked_spec : SpecOK Tryz.prog 144 (mkCall 3 asked_i asked_o asked_r asked) := call_spec E_tright_ok Tryz.func144 (by kernel_rfl) (by kernel_rfl) rfl (fun v => (asked_eq v).trans (asked_okd v)) (LoopsOK_of asked_q trivial)
def E_asked : Env := E_tright.ext 144 true true (mkCall 3 asked_i asked_o asked_r asked)
theorem E_asked_ok : EnvOK Tryz.prog E_asked := Env.ext_ok E_tright_ok asked_spec (fun _ => mkCall_local rfl rfl) (fun _ => mkCall_in rfl rfl)
-- cmp.isNaN[int]
abbrev nanI_h : Hints := {  }
theorem nanI_okd : ∀ v, nanI_d v = pevCall Tryz.prog E_asked nanI_h Tryz.f106 nanI_i nanI_o nanI_r v := by
  rintro ⟨a0, ⟨⟩⟩
  kernel_rfl
theorem nanI_q : loopList (bodyOf Tryz.f106) 0 = [] := by kernel_rfl
theorem nanI_spec : SpecOK Tryz.prog 106 (mkCall 1 nanI_i nanI_o nanI_r nanI) := call_spec E_asked_ok Tryz.func106 (by kernel_rfl) (by kernel_rfl) rfl (fun v => (nanI_eq v).trans (nanI_okd v)) (LoopsOK_of nanI_q trivial)
def E_nanI : Env := E_asked.ext 106 true true (mkCall 1 nanI_i nanI_o nanI_r nanI)
theorem E_nanI_ok : EnvOK Tryz.prog E_nanI := Env.ext_ok E_asked_ok nanI_spec (fun _ => mkCall_local rfl rfl) (fun _ => mkCall_in rfl rfl)
-- cmp.Compare[int]
abbrev compareI_h : Hints := {  }
theorem compareI_okd : ∀ v, compareI_d v = pevCall Tryz.prog E_nanI compareI_h Tryz.f75 compareI_i compareI_o compareI_r v := by
  rintro ⟨a0, a1, ⟨⟩⟩
  kernel_rfl
theorem compareI_q : loopList (bodyOf Tryz.f75) 0 = [] := by kernel_rfl
theorem compareI_spec : SpecOK Tryz.prog 75 (mkCall 2 compareI_i compareI_o compareI_r compareI) := call_spec E_nanI_ok Tryz.func75 (by kernel_rfl) (by kernel_rfl) rfl (fun v => (compareI_eq v).trans (compareI_okd v)) (LoopsOK_of compareI_q trivial)
def E_compareI : Env := E_nanI.ext 75 true true (mkCall 2 compareI_i compareI_o compareI_r compareI)
theorem E_compareI_ok : EnvOK Tryz.prog E_compareI := Env.ext_ok E_nanI_ok compareI_spec (fun _ => mkCall_local rfl rfl) (fun _ => mkCall_in rfl rfl)
-- archipelago/tour.with$1
abbrev with1_h : Hints := { fp := fun n => match n with | 1 => [[], [], [], [], [], [], [], []] | _ => [] }
theorem with1_okd : ∀ v, with1_d v = pevCall Tryz.prog E_compareI with1_h Tryz.f166 with1_i with1_o with1_r v := by
  rintro ⟨a0, a1, ⟨⟩⟩
  kernel_rfl
theorem with1_q : loopList (bodyOf Tryz.f166) 0 = [] := by kernel_rfl
theorem with1_spec : SpecOK Tryz.prog 166 (mkCall 2 with1_i with1_o with1_r with1) := call_spec E_compareI_ok Tryz.func166 (by kernel_rfl) (by kernel_rfl) rfl (fun v => (with1_eq v).trans (with1_okd v)) (LoopsOK_of with1_q trivial)
def E_with1 : Env := E_compareI.ext 166 true true (mkCall 2 with1_i with1_o with1_r with1)
theorem E_with1_ok : EnvOK Tryz.prog E_with1 := Env.ext_ok E_compareI_ok with1_spec (fun _ => mkCall_local rfl rfl) (fun _ => mkCall_in rfl rfl)
-- math/bits.Len64
abbrev len64_h : Hints := {  }
theorem len64_okd : ∀ v, len64_d v = pevCall Tryz.prog E_with1 len64_h Tryz.f105 len64_i len64_o len64_r v := by
  rintro ⟨a0, ⟨⟩⟩
  kernel_rfl
theorem len64_q : loopList (bodyOf Tryz.f105) 0 = [] := by kernel_rfl
theorem len64_spec : SpecOK Tryz.prog 105 (mkCall 1 len64_i len64_o len64_r len64) := call_spec E_with1_ok Tryz.func105 (by kernel_rfl) (by kernel_rfl) rfl (fun v => (len64_eq v).trans (len64_okd v)) (LoopsOK_of len64_q trivial)
def E_len64 : Env := E_with1.ext 105 true true (mkCall 1 len64_i len64_o len64_r len64)
theorem E_len64_ok : EnvOK Tryz.prog E_len64 := Env.ext_ok E_with1_ok len64_spec (fun _ => mkCall_local rfl rfl) (fun _ => mkCall_in rfl rfl)
-- math/bits.Len
abbrev bitsLen_h : Hints := {  }
theorem bitsLen_okd : ∀ v, bitsLen_d v = pevCall Tryz.prog E_len64 bitsLen_h Tryz.f73 bitsLen_i bitsLen_o bitsLen_r v := by
  rintro ⟨a0, ⟨⟩⟩
  kernel_rfl
theorem bitsLen_q : loopList (bodyOf Tryz.f73) 0 = [] := by kernel_rfl
theorem bitsLen_spec : SpecOK Tryz.prog 73 (mkCall 1 bitsLen_i bitsLen_o bitsLen_r bitsLen) := call_spec E_len64_ok Tryz.func73 (by kernel_rfl) (by kernel_rfl) rfl (fun v => (bitsLen_eq v).trans (bitsLen_okd v)) (LoopsOK_of bitsLen_q trivial)
def E_bitsLen : Env := E_len64.ext 73 true true (mkCall 1 bitsLen_i bitsLen_o bitsLen_r bitsLen)
theorem E_bitsLen_ok : EnvOK Tryz.prog E_bitsLen := Env.ext_ok E_len64_ok bitsLen_spec (fun _ => mkCall_local rfl rfl) (fun _ => mkCall_in rfl rfl)
-- (*slices.xorshift).Next
abbrev xorNext_h : Hints := { fp := fun n => match n with | 3 => [[], [0], [0], [], [0], [0], [], [], [0], [1]] | 2 => [[], [0], [0], [], [0], [0], [], [], [0], [1]] | 1 => [[], [0], [0], [], [0], [0], [], [], [0], [1]] | _ => [] }
theorem xorNext_okd : ∀ v, xorNext_d v = pevCall Tryz.prog E_bitsLen xorNext_h Tryz.f132 xorNext_i xorNext_o xorNext_r v := by
  rintro ⟨a0, ⟨⟩⟩
  kernel_rfl
theorem xorNext_q : loopList (bodyOf Tryz.f132) 0 = [] := by kernel_rfl
theorem xorNext_spec : SpecOK Tryz.prog 132 (mkCall 1 xorNext_i xorNext_o xorNext_r xorNext) := call_spec E_bitsLen_ok Tryz.func132 (by kernel_rfl) (by kernel_rfl) rfl (fun v => (xorNext_eq v).trans (xorNext_okd v)) (LoopsOK_of xorNext_q trivial)
def E_xorNext : Env := E_bitsLen.ext 132 false true (mkCall 1 xorNext_i xorNext_o xorNext_r xorNext)
theorem E_xorNext_ok : EnvOK Tryz.prog E_xorNext := Env.ext_ok E_bitsLen_ok xorNext_spec ((by simp)) (fun _ => mkCall_in rfl rfl)
-- slices.nextPowerOfTwo
abbrev nextPow_h : Hints := {  }
theorem nextPow_okd : ∀ v, nextPow_d v = pevCall Tryz.prog E_xorNext nextPow_h Tryz.f131 nextPow_i nextPow_o nextPow_r v := by
  rintro ⟨a0, ⟨⟩⟩
  kernel_rfl
theorem nextPow_q : loopList (bodyOf Tryz.f131) 0 = [] := by kernel_rfl
theorem nextPow_spec : SpecOK Tryz.prog 131 (mkCall 1 nextPow_i nextPow_o nextPow_r nextPow) := call_spec E_xorNext_ok Tryz.func131 (by kernel_rfl) (by kernel_rfl) rfl (fun v => (nextPow_eq v).trans (nextPow_okd v)) (LoopsOK_of nextPow_q trivial)
def E_nextPow : Env := E_xorNext.ext 131 true true (mkCall 1 nextPow_i nextPow_o nextPow_r nextPow)
theorem E_nextPow_ok : EnvOK Tryz.prog E_nextPow := Env.ext_ok E_xorNext_ok nextPow_spec (fun _ => mkCall_local rfl rfl) (fun _ => mkCall_in rfl rfl)
-- slices.insertionSortCmpFunc[[]int]
abbrev insL_h : Hints := { loop := fun n => match n with | 0 => loopBy 1 53 insL_i0 insL_o0 insL_s0 | 1 => loopBy 1 53 insL_i1 insL_o1 insL_s1 | _ => fun _ _ _ => none, fp := fun n => match n with | 4 => [[], [], [], [], [], [], [], [0], [0], [], [], [], [0], [0], [], [], []] | 6 => [[], [], [], [], [], [], [], [], [0], [0], [], [], [0], [0], [0], [1], [0], [1]] | _ => [] }
theorem insL_s1_ok : ∀ v, insL_s1 v = roundOf Tryz.prog E_nextPow insL_h 2 1 53 (loopOf Tryz.f169 1) insL_i1 insL_o1 v := by
  rintro ⟨a0, a1, a2, a3, a4, ⟨⟩⟩
  kernel_rfl
theorem insL_q1 : loopList (loopOf Tryz.f169 1) 2 = [] := by kernel_rfl
theorem insL_l1 : CodeOK Tryz.prog 1 (.loop (loopOf Tryz.f169 1)) (insL_h.loop 1) := loop_ok E_nextPow_ok (insL_s1_ok) (LoopsOK_of insL_q1 trivial)
theorem insL_s0_ok : ∀ v, insL_s0 v = roundOf Tryz.prog E_nextPow insL_h 1 1 53 (loopOf Tryz.f169 0) insL_i0 insL_o0 v := by
  rintro ⟨a0, a1, a2, a3, ⟨⟩⟩
  kernel_rfl
theorem insL_q0 : loopList (loopOf Tryz.f169 0) 1 = [(1, loopOf Tryz.f169 1)] := by kernel_rfl
theorem insL_l0 : CodeOK Tryz.prog 1 (.loop (loopOf Tryz.f169 0)) (insL_h.loop 0) := loop_ok E_nextPow_ok (insL_s0_ok) (LoopsOK_of insL_q0 ⟨insL_l1, trivial⟩)
theorem insL_okd : ∀ v, insL_d v = pevCall Tryz.prog E_nextPow insL_h Tryz.f169 insL_i insL_o insL_r v := by
  rintro ⟨a0, a1, a2, ⟨⟩⟩
  kernel_rfl
theorem insL_q : loopList (bodyOf Tryz.f169) 0 = [(0, loopOf Tryz.f169 0)] := by kernel_rfl
theorem insL_spec : SpecOK Tryz.prog 169 (mkCall 4 insL_i insL_o insL_r insL) := call_spec E_nextPow_ok Tryz.func169 (by kernel_rfl) (by kernel_rfl) rfl (fun v => (insL_eq v).trans (insL_okd v)) (LoopsOK_of insL_q ⟨insL_l0, trivial⟩)
def E_insL : Env := E_nextPow.extC 169 3 166 (mkCall 4 insL_i insL_o insL_r insL)
theorem E_insL_ok : EnvOK Tryz.prog E_insL := Env.extC_ok E_nextPow_ok insL_spec (mkCall_in rfl rfl)
-- slices.siftDownCmpFunc[[]int]
abbrev siftL_h : Hints := { loop := fun n => match n with | 0 => loopBy 1 82 siftL_i0 siftL_o0 siftL_s0 | _ => fun _ _ _ => none, fp := fun n => match n with | 6 => [[], [], [], [], [], [], [], [], [], [], [], [], [0], [0], [], [], [], [], [0], [0], [0], [1], [0], [1]] | 5 => [[], [], [], [], [], [0], [0], [], [], [], [], [0], [0], [], [], []] | 3 => [[], [], [], [], [], [], [], [], [], [], [0], [0], [], [], [], [], [], [0], [0], [], [], []] | _ => [] }
theorem siftL_s0_ok : ∀ v, siftL_s0 v = roundOf Tryz.prog E_insL siftL_h 1 1 82 (loopOf Tryz.f177 0) siftL_i0 siftL_o0 v := by
  rintro ⟨a0, a1, a2, a3, ⟨⟩⟩
  kernel_rfl
theorem siftL_q0 : loopList (loopOf Tryz.f177 0) 1 = [] := by kernel_rfl
theorem siftL_l0 : CodeOK Tryz.prog 1 (.loop (loopOf Tryz.f177 0)) (siftL_h.loop 0) := loop_ok E_insL_ok (siftL_s0_ok) (LoopsOK_of siftL_q0 trivial)
theorem siftL_okd : ∀ v, siftL_d v = pevCall Tryz.prog E_insL siftL_h Tryz.f177 siftL_i siftL_o siftL_r v := by
  rintro ⟨a0, a1, a2, a3, ⟨⟩⟩
  kernel_rfl
theorem siftL_q : loopList (bodyOf Tryz.f177) 0 = [(0, loopOf Tryz.f177 0)] := by kernel_rfl
theorem siftL_spec : SpecOK Tryz.prog 177 (mkCall 5 siftL_i siftL_o siftL_r siftL) := call_spec E_insL_ok Tryz.func177 (by kernel_rfl) (by kernel_rfl) rfl (fun v => (siftL_eq v).trans (siftL_okd v)) (LoopsOK_of siftL_q ⟨siftL_l0, trivial⟩)
def E_siftL : Env := E_insL.extC 177 4 166 (mkCall 5 siftL_i siftL_o siftL_r siftL)
theorem E_siftL_ok : EnvOK Tryz.prog E_siftL := Env.extC_ok E_insL_ok siftL_spec (mkCall_in rfl rfl)
end
end Go.Pev
end
section
namespace Go.Pev
open Go.Proofs
set_option maxRecDepth 100000
noncomputable section
-- slices.heapSortCmpFunc[[]int]
abbrev heapL_h : Hints := { loop := fun n => match n with | 0 => loopBy 1 60 heapL_i0 heapL_o0 heapL_s0 | 1 => loopBy 1 60 heapL_i1 heapL_o1 heapL_s1 | _ => fun _ _ _ => none, fp := fun n => match n with | 10 => [[], [], [], [], [], [], [], [], [], [], [0], [0], [], [], [0], [0], [0], [1], [0], [1]] | _ => [] }
theorem heapL_s1_ok : ∀ v, heapL_s1 v = roundOf Tryz.prog E_siftL heapL_h 2 1 60 (loopOf Tryz.f170 1) heapL_i1 heapL_o1 v := by
  rintro ⟨a0, a1, a2, a3, ⟨⟩⟩
  kernel_rfl
theorem heapL_q1 : loopList (loopOf Tryz.f170 1) 2 = [] := by kernel_rfl
theorem heapL_l1 : CodeOK Tryz.prog 1 (.loop (loopOf Tryz.f170 1)) (heapL_h.loop 1) := loop_ok E_siftL_ok (heapL_s1_ok) (LoopsOK_of heapL_q1 trivial)
theorem heapL_s0_ok : ∀ v, heapL_s0 v = roundOf Tryz.prog E_siftL heapL_h 1 1 60 (loopOf Tryz.f170 0) heapL_i0 heapL_o0 v := by
  rintro ⟨a0, a1, a2, a3, a4, ⟨⟩⟩
  kernel_rfl
theorem heapL_q0 : loopList (loopOf Tryz.f170 0) 1 = [] := by kernel_rfl
theorem heapL_l0 : CodeOK Tryz.prog 1 (.loop (loopOf Tryz.f170 0)) (heapL_h.loop 0) := loop_ok E_siftL_ok (heapL_s0_ok) (LoopsOK_of heapL_q0 trivial)
theorem heapL_okd : ∀ v, heapL_d v = pevCall Tryz.prog E_siftL heapL_h Tryz.f170 heapL_i heapL_o heapL_r v := by
  rintro ⟨a0, a1, a2, ⟨⟩⟩
  kernel_rfl
theorem heapL_q : loopList (bodyOf Tryz.f170) 0 = [(0, loopOf Tryz.f170 0), (1, loopOf Tryz.f170 1)] := by kernel_rfl
theorem heapL_spec : SpecOK Tryz.prog 170 (mkCall 4 heapL_i heapL_o heapL_r heapL) := call_spec E_siftL_ok Tryz.func170 (by kernel_rfl) (by kernel_rfl) rfl (fun v => (heapL_eq v).trans (heapL_okd v)) (LoopsOK_of heapL_q ⟨heapL_l0, heapL_l1, trivial⟩)
def E_heapL : Env := E_siftL.extC 170 3 166 (mkCall 4 heapL_i heapL_o heapL_r heapL)
theorem E_heapL_ok : EnvOK Tryz.prog E_heapL := Env.extC_ok E_siftL_ok heapL_spec (mkCall_in rfl rfl)
-- slices.breakPatternsCmpFunc[[]int]
abbrev breakL_h : Hints := { loop := fun n => match n with | 0 => loopBy 1 67 breakL_i0 breakL_o0 breakL_s0 | _ => fun _ _ _ => none, fp := fun n => match n with | 10 => [[], [], [], [], [], [], [], [], [], [], [0], [0], [], [], [0], [0], [0], [1], [0], [1]] | _ => [] }
theorem breakL_s0_ok : ∀ v, breakL_s0 v = roundOf Tryz.prog E_heapL breakL_h 1 1 67 (loopOf Tryz.f171 0) breakL_i0 breakL_o0 v := by
  rintro ⟨a0, a1, a2, a3, a4, a5, ⟨⟩⟩
  kernel_rfl
theorem breakL_q0 : loopList (loopOf Tryz.f171 0) 1 = [] := by kernel_rfl
theorem breakL_l0 : CodeOK Tryz.prog 1 (.loop (loopOf Tryz.f171 0)) (breakL_h.loop 0) := loop_ok E_heapL_ok (breakL_s0_ok) (LoopsOK_of breakL_q0 trivial)
theorem breakL_okd : ∀ v, breakL_d v = pevCall Tryz.prog E_heapL breakL_h Tryz.f171 breakL_i breakL_o breakL_r v := by
  rintro ⟨a0, a1, a2, ⟨⟩⟩
  kernel_rfl
theorem breakL_q : loopList (bodyOf Tryz.f171) 0 = [(0, loopOf Tryz.f171 0)] := by kernel_rfl
theorem breakL_spec : SpecOK Tryz.prog 171 (mkCall 4 breakL_i breakL_o breakL_r breakL) := call_spec E_heapL_ok Tryz.func171 (by kernel_rfl) (by kernel_rfl) rfl (fun v => (breakL_eq v).trans (breakL_okd v)) (LoopsOK_of breakL_q ⟨breakL_l0, trivial⟩)
def E_breakL : Env := E_heapL.extC 171 3 166 (mkCall 4 breakL_i breakL_o breakL_r breakL)
theorem E_breakL_ok : EnvOK Tryz.prog E_breakL := Env.extC_ok E_heapL_ok breakL_spec (mkCall_in rfl rfl)
-- slices.order2CmpFunc[[]int]
abbrev order2L_h : Hints := { fp := fun n => match n with | 1 => [[], [], [], [0], [0], [], [], [0], [0], [], []] | _ => [] }
theorem order2L_okd : ∀ v, order2L_d v = pevCall Tryz.prog E_breakL order2L_h Tryz.f180 order2L_i order2L_o order2L_r v := by
  rintro ⟨a0, a1, a2, a3, ⟨⟩⟩
  kernel_rfl
theorem order2L_q : loopList (bodyOf Tryz.f180) 0 = [] := by kernel_rfl
theorem order2L_spec : SpecOK Tryz.prog 180 (mkCall 5 order2L_i order2L_o order2L_r order2L) := call_spec E_breakL_ok Tryz.func180 (by kernel_rfl) (by kernel_rfl) rfl (fun v => (order2L_eq v).trans (order2L_okd v)) (LoopsOK_of order2L_q trivial)
def E_order2L : Env := E_breakL.extC 180 4 166 (mkCall 5 order2L_i order2L_o order2L_r order2L)
theorem E_order2L_ok : EnvOK Tryz.prog E_order2L := Env.extC_ok E_breakL_ok order2L_spec (mkCall_in rfl rfl)
-- slices.medianCmpFunc[[]int]
abbrev medianL_h : Hints := {  }
theorem medianL_okd : ∀ v, medianL_d v = pevCall Tryz.prog E_order2L medianL_h Tryz.f179 medianL_i medianL_o medianL_r v := by
  rintro ⟨a0, a1, a2, a3, a4, ⟨⟩⟩
  kernel_rfl
theorem medianL_q : loopList (bodyOf Tryz.f179) 0 = [] := by kernel_rfl
theorem medianL_spec : SpecOK Tryz.prog 179 (mkCall 6 medianL_i medianL_o medianL_r medianL) := call_spec E_order2L_ok Tryz.func179 (by kernel_rfl) (by kernel_rfl) rfl (fun v => (medianL_eq v).trans (medianL_okd v)) (LoopsOK_of medianL_q trivial)
def E_medianL : Env := E_order2L.extC 179 5 166 (mkCall 6 medianL_i medianL_o medianL_r medianL)
theorem E_medianL_ok : EnvOK Tryz.prog E_medianL := Env.extC_ok E_order2L_ok medianL_spec (mkCall_in rfl rfl)
-- slices.medianAdjacentCmpFunc[[]int]
abbrev medAdjL_h : Hints := {  }
theorem medAdjL_okd : ∀ v, medAdjL_d v = pevCall Tryz.prog E_medianL medAdjL_h Tryz.f178 medAdjL_i medAdjL_o medAdjL_r v := by
  rintro ⟨a0, a1, a2, ⟨⟩⟩
  kernel_rfl
theorem medAdjL_q : loopList (bodyOf Tryz.f178) 0 = [] := by kernel_rfl
theorem medAdjL_spec : SpecOK Tryz.prog 178 (mkCall 4 medAdjL_i medAdjL_o medAdjL_r medAdjL) := call_spec E_medianL_ok Tryz.func178 (by kernel_rfl) (by kernel_rfl) rfl (fun v => (medAdjL_eq v).trans (medAdjL_okd v)) (LoopsOK_of medAdjL_q trivial)
def E_medAdjL : Env := E_medianL.extC 178 3 166 (mkCall 4 medAdjL_i medAdjL_o medAdjL_r medAdjL)
theorem E_medAdjL_ok : EnvOK Tryz.prog E_medAdjL := Env.extC_ok E_medianL_ok medAdjL_spec (mkCall_in rfl rfl)
-- slices.choosePivotCmpFunc[[]int]
abbrev pivotL_h : Hints := {  }
theorem pivotL_okd : ∀ v, pivotL_d v = pevCall Tryz.prog E_medAdjL pivotL_h Tryz.f172 pivotL_i pivotL_o pivotL_r v := by
  rintro ⟨a0, a1, a2, ⟨⟩⟩
  kernel_rfl
theorem pivotL_q : loopList (bodyOf Tryz.f172) 0 = [] := by kernel_rfl
theorem pivotL_spec : SpecOK Tryz.prog 172 (mkCall 4 pivotL_i pivotL_o pivotL_r pivotL) := call_spec E_medAdjL_ok Tryz.func172 (by kernel_rfl) (by kernel_rfl) rfl (fun v => (pivotL_eq v).trans (pivotL_okd v)) (LoopsOK_of pivotL_q trivial)
def E_pivotL : Env := E_medAdjL.extC 172 3 166 (mkCall 4 pivotL_i pivotL_o pivotL_r pivotL)
theorem E_pivotL_ok : EnvOK Tryz.prog E_pivotL := Env.extC_ok E_medAdjL_ok pivotL_spec (mkCall_in rfl rfl)
-- slices.reverseRangeCmpFunc[[]int]
abbrev revL_h : Hints := { loop := fun n => match n with | 0 => loopBy 1 34 revL_i0 revL_o0 revL_s0 | _ => fun _ _ _ => none, fp := fun n => match n with | 3 => [[], [], [], [], [], [], [0], [0], [], [], [0], [0], [0], [1], [0], [1]] | _ => [] }
theorem revL_s0_ok : ∀ v, revL_s0 v = roundOf Tryz.prog E_pivotL revL_h 1 1 34 (loopOf Tryz.f173 0) revL_i0 revL_o0 v := by
  rintro ⟨a0, a1, a2, ⟨⟩⟩
  kernel_rfl
theorem revL_q0 : loopList (loopOf Tryz.f173 0) 1 = [] := by kernel_rfl
theorem revL_l0 : CodeOK Tryz.prog 1 (.loop (loopOf Tryz.f173 0)) (revL_h.loop 0) := loop_ok E_pivotL_ok (revL_s0_ok) (LoopsOK_of revL_q0 trivial)
theorem revL_okd : ∀ v, revL_d v = pevCall Tryz.prog E_pivotL revL_h Tryz.f173 revL_i revL_o revL_r v := by
  rintro ⟨a0, a1, a2, ⟨⟩⟩
  kernel_rfl
theorem revL_q : loopList (bodyOf Tryz.f173) 0 = [(0, loopOf Tryz.f173 0)] := by kernel_rfl
theorem revL_spec : SpecOK Tryz.prog 173 (mkCall 4 revL_i revL_o revL_r revL) := call_spec E_pivotL_ok Tryz.func173 (by kernel_rfl) (by kernel_rfl) rfl (fun v => (revL_eq v).trans (revL_okd v)) (LoopsOK_of revL_q ⟨revL_l0, trivial⟩)
def E_revL : Env := E_pivotL.extC 173 3 166 (mkCall 4 revL_i revL_o revL_r revL)
theorem E_revL_ok : EnvOK Tryz.prog E_revL := Env.extC_ok E_pivotL_ok revL_spec (mkCall_in rfl rfl)
-- slices.partialInsertionSortCmpFunc[[]int]
abbrev partInsL_h : Hints := { loop := fun n => match n with | 0 => loopBy 1 141 partInsL_i0 partInsL_o0 partInsL_s0 | 1 => loopBy 1 141 partInsL_i1 partInsL_o1 partInsL_s1 | 2 => loopBy 1 141 partInsL_i2 partInsL_o2 partInsL_s2 | 3 => loopBy 1 141 partInsL_i3 partInsL_o3 partInsL_s3 | _ => fun _ _ _ => none, fp := fun n => match n with | 11 => [[], [], [], [], [], [], [], [], [0], [0], [], [], [0], [0], [0], [1], [0], [1]] | 5 => [[], [], [], [], [], [], [], [0], [0], [], [], [], [0], [0], [], [], [], []] | 17 => [[], [], [], [], [], [], [], [], [0], [0], [], [], [0], [0], [0], [1], [0], [1]] | 16 => [[], [], [], [0], [0], [], [], [], [0], [0], [], [], []] | 23 => [[], [], [], [], [], [], [], [], [0], [0], [], [], [0], [0], [0], [1], [0], [1]] | 22 => [[], [], [], [0], [0], [], [], [], [0], [0], [], [], []] | _ => [] }
theorem partInsL_s3_ok : ∀ v, partInsL_s3 v = roundOf Tryz.prog E_revL partInsL_h 4 1 141 (loopOf Tryz.f174 3) partInsL_i3 partInsL_o3 v := by
  rintro ⟨a0, a1, a2, a3, a4, a5, ⟨⟩⟩
  kernel_rfl
theorem partInsL_q3 : loopList (loopOf Tryz.f174 3) 4 = [] := by kernel_rfl
theorem partInsL_l3 : CodeOK Tryz.prog 1 (.loop (loopOf Tryz.f174 3)) (partInsL_h.loop 3) := loop_ok E_revL_ok (partInsL_s3_ok) (LoopsOK_of partInsL_q3 trivial)
theorem partInsL_s2_ok : ∀ v, partInsL_s2 v = roundOf Tryz.prog E_revL partInsL_h 3 1 141 (loopOf Tryz.f174 2) partInsL_i2 partInsL_o2 v := by
  rintro ⟨a0, a1, a2, a3, a4, a5, ⟨⟩⟩
  kernel_rfl
theorem partInsL_q2 : loopList (loopOf Tryz.f174 2) 3 = [] := by kernel_rfl
theorem partInsL_l2 : CodeOK Tryz.prog 1 (.loop (loopOf Tryz.f174 2)) (partInsL_h.loop 2) := loop_ok E_revL_ok (partInsL_s2_ok) (LoopsOK_of partInsL_q2 trivial)
theorem partInsL_s1_ok : ∀ v, partInsL_s1 v = roundOf Tryz.prog E_revL partInsL_h 2 1 141 (loopOf Tryz.f174 1) partInsL_i1 partInsL_o1 v := by
  rintro ⟨a0, a1, a2, a3, a4, ⟨⟩⟩
  kernel_rfl
theorem partInsL_q1 : loopList (loopOf Tryz.f174 1) 2 = [] := by kernel_rfl
theorem partInsL_l1 : CodeOK Tryz.prog 1 (.loop (loopOf Tryz.f174 1)) (partInsL_h.loop 1) := loop_ok E_revL_ok (partInsL_s1_ok) (LoopsOK_of partInsL_q1 trivial)
theorem partInsL_s0_ok : ∀ v, partInsL_s0 v = roundOf Tryz.prog E_revL partInsL_h 1 1 141 (loopOf Tryz.f174 0) partInsL_i0 partInsL_o0 v := by
  rintro ⟨a0, a1, a2, a3, a4, ⟨⟩⟩
  kernel_rfl
theorem partInsL_q0 : loopList (loopOf Tryz.f174 0) 1 = [(1, loopOf Tryz.f174 1), (2, loopOf Tryz.f174 2), (3, loopOf Tryz.f174 3)] := by kernel_rfl
theorem partInsL_l0 : CodeOK Tryz.prog 1 (.loop (loopOf Tryz.f174 0)) (partInsL_h.loop 0) := loop_ok E_revL_ok (partInsL_s0_ok) (LoopsOK_of partInsL_q0 ⟨partInsL_l1, partInsL_l2, partInsL_l3, trivial⟩)
theorem partInsL_okd : ∀ v, partInsL_d v = pevCall Tryz.prog E_revL partInsL_h Tryz.f174 partInsL_i partInsL_o partInsL_r v := by
  rintro ⟨a0, a1, a2, ⟨⟩⟩
  kernel_rfl
theorem partInsL_q : loopList (bodyOf Tryz.f174) 0 = [(0, loopOf Tryz.f174 0)] := by kernel_rfl
theorem partInsL_spec : SpecOK Tryz.prog 174 (mkCall 4 partInsL_i partInsL_o partInsL_r partInsL) := call_spec E_revL_ok Tryz.func174 (by kernel_rfl) (by kernel_rfl) rfl (fun v => (partInsL_eq v).trans (partInsL_okd v)) (LoopsOK_of partInsL_q ⟨partInsL_l0, trivial⟩)
def E_partInsL : Env := E_revL.extC 174 3 166 (mkCall 4 partInsL_i partInsL_o partInsL_r partInsL)
theorem E_partInsL_ok : EnvOK Tryz.prog E_partInsL := Env.extC_ok E_revL_ok partInsL_spec (mkCall_in rfl rfl)
-- slices.partitionEqualCmpFunc[[]int]
abbrev partEqL_h : Hints := { loop := fun n => match n with | 0 => loopBy 1 90 partEqL_i0 partEqL_o0 partEqL_s0 | 1 => loopBy 1 90 partEqL_i1 partEqL_o1 partEqL_s1 | 2 => loopBy 1 90 partEqL_i2 partEqL_o2 partEqL_s2 | _ => fun _ _ _ => none, fp := fun n => match n with | 8 => [[], [], [], [], [], [], [0], [0], [], [], [0], [0], [0], [1], [0], [1]] | 3 => [[], [], [], [], [], [], [], [0], [0], [], [], [0], [0], [], [], [], []] | 5 => [[], [], [], [], [], [], [], [0], [0], [], [], [0], [0], [], [], []] | 1 => [[], [], [], [], [], [], [0], [0], [], [], [0], [0], [0], [1], [0], [1]] | _ => [] }
theorem partEqL_s2_ok : ∀ v, partEqL_s2 v = roundOf Tryz.prog E_partInsL partEqL_h 3 1 90 (loopOf Tryz.f175 2) partEqL_i2 partEqL_o2 v := by
  rintro ⟨a0, a1, a2, a3, ⟨⟩⟩
  kernel_rfl
theorem partEqL_q2 : loopList (loopOf Tryz.f175 2) 3 = [] := by kernel_rfl
theorem partEqL_l2 : CodeOK Tryz.prog 1 (.loop (loopOf Tryz.f175 2)) (partEqL_h.loop 2) := loop_ok E_partInsL_ok (partEqL_s2_ok) (LoopsOK_of partEqL_q2 trivial)
theorem partEqL_s1_ok : ∀ v, partEqL_s1 v = roundOf Tryz.prog E_partInsL partEqL_h 2 1 90 (loopOf Tryz.f175 1) partEqL_i1 partEqL_o1 v := by
  rintro ⟨a0, a1, a2, a3, ⟨⟩⟩
  kernel_rfl
theorem partEqL_q1 : loopList (loopOf Tryz.f175 1) 2 = [] := by kernel_rfl
theorem partEqL_l1 : CodeOK Tryz.prog 1 (.loop (loopOf Tryz.f175 1)) (partEqL_h.loop 1) := loop_ok E_partInsL_ok (partEqL_s1_ok) (LoopsOK_of partEqL_q1 trivial)
theorem partEqL_s0_ok : ∀ v, partEqL_s0 v = roundOf Tryz.prog E_partInsL partEqL_h 1 1 90 (loopOf Tryz.f175 0) partEqL_i0 partEqL_o0 v := by
  rintro ⟨a0, a1, a2, a3, ⟨⟩⟩
  kernel_rfl
theorem partEqL_q0 : loopList (loopOf Tryz.f175 0) 1 = [(1, loopOf Tryz.f175 1), (2, loopOf Tryz.f175 2)] := by kernel_rfl
theorem partEqL_l0 : CodeOK Tryz.prog 1 (.loop (loopOf Tryz.f175 0)) (partEqL_h.loop 0) := loop_ok E_partInsL_ok (partEqL_s0_ok) (LoopsOK_of partEqL_q0 ⟨partEqL_l1, partEqL_l2, trivial⟩)
theorem partEqL_okd : ∀ v, partEqL_d v = pevCall Tryz.prog E_partInsL partEqL_h Tryz.f175 partEqL_i partEqL_o partEqL_r v := by
  rintro ⟨a0, a1, a2, a3, ⟨⟩⟩
  kernel_rfl
theorem partEqL_q : loopList (bodyOf Tryz.f175) 0 = [(0, loopOf Tryz.f175 0)] := by kernel_rfl
theorem partEqL_spec : SpecOK Tryz.prog 175 (mkCall 5 partEqL_i partEqL_o partEqL_r partEqL) := call_spec E_partInsL_ok Tryz.func175 (by kernel_rfl) (by kernel_rfl) rfl (fun v => (partEqL_eq v).trans (partEqL_okd v)) (LoopsOK_of partEqL_q ⟨partEqL_l0, trivial⟩)
def E_partEqL : Env := E_partInsL.extC 175 4 166 (mkCall 5 partEqL_i partEqL_o partEqL_r partEqL)
theorem E_partEqL_ok : EnvOK Tryz.prog E_partEqL := Env.extC_ok E_partInsL_ok partEqL_spec (mkCall_in rfl rfl)
-- slices.partitionCmpFunc[[]int]
abbrev partL_h : Hints := { loop := fun n => match n with | 0 => loopBy 1 178 partL_i0 partL_o0 partL_s0 | 1 => loopBy 1 178 partL_i1 partL_o1 partL_s1 | 2 => loopBy 1 178 partL_i2 partL_o2 partL_s2 | 3 => loopBy 1 178 partL_i3 partL_o3 partL_s3 | 4 => loopBy 1 178 partL_i4 partL_o4 partL_s4 | _ => fun _ _ _ => none, fp := fun n => match n with | 3 => [[], [], [], [], [], [], [], [0], [0], [], [], [0], [0], [], [], []] | 5 => [[], [], [], [], [], [], [], [0], [0], [], [], [0], [0], [], [], [], []] | 18 => [[], [], [], [], [], [], [0], [0], [], [], [0], [0], [0], [1], [0], [1]] | 13 => [[], [], [], [], [], [], [], [0], [0], [], [], [0], [0], [], [], []] | 15 => [[], [], [], [], [], [], [], [0], [0], [], [], [0], [0], [], [], [], []] | 21 => [[], [], [], [], [], [], [0], [0], [], [], [0], [0], [0], [1], [0], [1]] | 10 => [[], [], [], [], [], [], [0], [0], [], [], [0], [0], [0], [1], [0], [1]] | 8 => [[], [], [], [], [], [], [0], [0], [], [], [0], [0], [0], [1], [0], [1]] | 1 => [[], [], [], [], [], [], [0], [0], [], [], [0], [0], [0], [1], [0], [1]] | _ => [] }
theorem partL_s4_ok : ∀ v, partL_s4 v = roundOf Tryz.prog E_partEqL partL_h 5 1 178 (loopOf Tryz.f176 4) partL_i4 partL_o4 v := by
  rintro ⟨a0, a1, a2, a3, ⟨⟩⟩
  kernel_rfl
theorem partL_q4 : loopList (loopOf Tryz.f176 4) 5 = [] := by kernel_rfl
theorem partL_l4 : CodeOK Tryz.prog 1 (.loop (loopOf Tryz.f176 4)) (partL_h.loop 4) := loop_ok E_partEqL_ok (partL_s4_ok) (LoopsOK_of partL_q4 trivial)
theorem partL_s3_ok : ∀ v, partL_s3 v = roundOf Tryz.prog E_partEqL partL_h 4 1 178 (loopOf Tryz.f176 3) partL_i3 partL_o3 v := by
  rintro ⟨a0, a1, a2, a3, ⟨⟩⟩
  kernel_rfl
theorem partL_q3 : loopList (loopOf Tryz.f176 3) 4 = [] := by kernel_rfl
theorem partL_l3 : CodeOK Tryz.prog 1 (.loop (loopOf Tryz.f176 3)) (partL_h.loop 3) := loop_ok E_partEqL_ok (partL_s3_ok) (LoopsOK_of partL_q3 trivial)
theorem partL_s2_ok : ∀ v, partL_s2 v = roundOf Tryz.prog E_partEqL partL_h 3 1 178 (loopOf Tryz.f176 2) partL_i2 partL_o2 v := by
  rintro ⟨a0, a1, a2, a3, ⟨⟩⟩
  kernel_rfl
theorem partL_q2 : loopList (loopOf Tryz.f176 2) 3 = [(3, loopOf Tryz.f176 3), (4, loopOf Tryz.f176 4)] := by kernel_rfl
theorem partL_l2 : CodeOK Tryz.prog 1 (.loop (loopOf Tryz.f176 2)) (partL_h.loop 2) := loop_ok E_partEqL_ok (partL_s2_ok) (LoopsOK_of partL_q2 ⟨partL_l3, partL_l4, trivial⟩)
theorem partL_s1_ok : ∀ v, partL_s1 v = roundOf Tryz.prog E_partEqL partL_h 2 1 178 (loopOf Tryz.f176 1) partL_i1 partL_o1 v := by
  rintro ⟨a0, a1, a2, a3, ⟨⟩⟩
  kernel_rfl
theorem partL_q1 : loopList (loopOf Tryz.f176 1) 2 = [] := by kernel_rfl
theorem partL_l1 : CodeOK Tryz.prog 1 (.loop (loopOf Tryz.f176 1)) (partL_h.loop 1) := loop_ok E_partEqL_ok (partL_s1_ok) (LoopsOK_of partL_q1 trivial)
theorem partL_s0_ok : ∀ v, partL_s0 v = roundOf Tryz.prog E_partEqL partL_h 1 1 178 (loopOf Tryz.f176 0) partL_i0 partL_o0 v := by
  rintro ⟨a0, a1, a2, a3, ⟨⟩⟩
  kernel_rfl
theorem partL_q0 : loopList (loopOf Tryz.f176 0) 1 = [] := by kernel_rfl
theorem partL_l0 : CodeOK Tryz.prog 1 (.loop (loopOf Tryz.f176 0)) (partL_h.loop 0) := loop_ok E_partEqL_ok (partL_s0_ok) (LoopsOK_of partL_q0 trivial)
theorem partL_okd : ∀ v, partL_d v = pevCall Tryz.prog E_partEqL partL_h Tryz.f176 partL_i partL_o partL_r v := by
  rintro ⟨a0, a1, a2, a3, ⟨⟩⟩
  kernel_rfl
theorem partL_q : loopList (bodyOf Tryz.f176) 0 = [(0, loopOf Tryz.f176 0), (1, loopOf Tryz.f176 1), (2, loopOf Tryz.f176 2)] := by kernel_rfl
theorem partL_spec : SpecOK Tryz.prog 176 (mkCall 5 partL_i partL_o partL_r partL) := call_spec E_partEqL_ok Tryz.func176 (by kernel_rfl) (by kernel_rfl) rfl (fun v => (partL_eq v).trans (partL_okd v)) (LoopsOK_of partL_q ⟨partL_l0, partL_l1, partL_l2, trivial⟩)
def E_partL : Env := E_partEqL.extC 176 4 166 (mkCall 5 partL_i partL_o partL_r partL)
theorem E_partL_ok : EnvOK Tryz.prog E_partL := Env.extC_ok E_partEqL_ok partL_spec (mkCall_in rfl rfl)
-- slices.pdqsortCmpFunc[[]int]
abbrev pdqL_h (self : (List (List Int) × Int × Int × Int × Unit) → Option ((List (List Int) × Unit))) : Hints := { loop := fun n => match n with | 0 => loopBy 1 148 pdqL_i0 pdqL_o0 (pdqL_s0 self) | _ => fun _ _ _ => none, fp := fun n => match n with | 17 => [[], [], [], [], [], [], [], [0], [0], [], [], [0], [0], [], [], [], []] | _ => [] }
abbrev pdqL_E (self : (List (List Int) × Int × Int × Int × Unit) → Option ((List (List Int) × Unit))) : Env := E_partL.ext 168 false true (mkCall 5 pdqL_i pdqL_o pdqL_r self)
theorem pdqL_s0_ok (self : (List (List Int) × Int × Int × Int × Unit) → Option ((List (List Int) × Unit))) : ∀ v, pdqL_s0 self v = roundOf Tryz.prog (pdqL_E self) (pdqL_h self) 1 1 148 (loopOf Tryz.f168 0) pdqL_i0 pdqL_o0 v := by
  rintro ⟨a0, a1, a2, a3, a4, a5, ⟨⟩⟩
  kernel_rfl
theorem pdqL_q0 : loopList (loopOf Tryz.f168 0) 1 = [] := by kernel_rfl
theorem pdqL_l0 (self : (List (List Int) × Int × Int × Int × Unit) → Option ((List (List Int) × Unit))) (hE : EnvOK Tryz.prog (pdqL_E self)) : CodeOK Tryz.prog 1 (.loop (loopOf Tryz.f168 0)) ((pdqL_h self).loop 0) := loop_ok hE (pdqL_s0_ok self) (LoopsOK_of pdqL_q0 trivial)
theorem pdqL_okd (self : (List (List Int) × Int × Int × Int × Unit) → Option ((List (List Int) × Unit))) : ∀ v, pdqL_d self v = pevCall Tryz.prog (pdqL_E self) (pdqL_h self) Tryz.f168 pdqL_i pdqL_o pdqL_r v := by
  rintro ⟨a0, a1, a2, a3, ⟨⟩⟩
  kernel_rfl
theorem pdqL_q : loopList (bodyOf Tryz.f168) 0 = [(0, loopOf Tryz.f168 0)] := by kernel_rfl
theorem pdqL_fspec : ∀ n, SpecOK Tryz.prog 168 (mkCall 5 pdqL_i pdqL_o pdqL_r (pdqL_f n)) := by
  intro n
  induction n with
  | zero => exact mkCall_none fun _ => rfl
  | succ n ih =>
    have hE : EnvOK Tryz.prog (pdqL_E (pdqL_f n)) := Env.ext_ok E_partL_ok ih ((by simp)) (fun _ => mkCall_in rfl rfl)
    let self := pdqL_f n
    exact call_spec hE Tryz.func168 (by kernel_rfl) (by kernel_rfl) rfl (pdqL_okd self) (LoopsOK_of pdqL_q ⟨(pdqL_l0 self hE), trivial⟩)
theorem pdqL_spec : SpecOK Tryz.prog 168 (mkCall 5 pdqL_i pdqL_o pdqL_r pdqL) := by
  have e : pdqL = pdqL_f 100 := funext pdqL_eq
  rw [e]
  exact pdqL_fspec _
def E_pdqL : Env := E_partL.extC 168 4 166 (mkCall 5 pdqL_i pdqL_o pdqL_r pdqL)
theorem E_pdqL_ok : EnvOK Tryz.prog E_pdqL := Env.extC_ok E_partL_ok pdqL_spec (mkCall_in rfl rfl)
-- slices.SortFunc[[][]int,[]int]
abbrev sortL_h : Hints := {  }
theorem sortL_okd : ∀ v, sortL_d v = pevCall Tryz.prog E_pdqL sortL_h Tryz.f165 sortL_i sortL_o sortL_r v := by
  rintro ⟨a0, ⟨⟩⟩
  kernel_rfl
theorem sortL_q : loopList (bodyOf Tryz.f165) 0 = [] := by kernel_rfl
theorem sortL_spec : SpecOK Tryz.prog 165 (mkCall 2 sortL_i sortL_o sortL_r sortL) := call_spec E_pdqL_ok Tryz.func165 (by kernel_rfl) (by kernel_rfl) rfl (fun v => (sortL_eq v).trans (sortL_okd v)) (LoopsOK_of sortL_q trivial)
def E_sortL : Env := E_pdqL.extC 165 1 166 (mkCall 2 sortL_i sortL_o sortL_r sortL)
theorem E_sortL_ok : EnvOK Tryz.prog E_sortL := Env.extC_ok E_pdqL_ok sortL_spec (mkCall_in rfl rfl)
end
end Go.Pev
end
section
namespace Go.Pev
open Go.Proofs
set_option maxRecDepth 100000
noncomputable section
-- archipelago/tour.with
abbrev twith_h : Hints := { loop := fun n => match n with | 0 => loopBy 0 47 twith_i0 twith_o0 twith_s0 | 1 => loopBy 0 47 twith_i1 twith_o1 twith_s1 | _ => fun _ _ _ => none }
theorem twith_s1_ok : ∀ v, twith_s1 v = roundOf Tryz.prog E_sortL twith_h 2 0 47 (loopOf Tryz.f148 1) twith_i1 twith_o1 v := by
  rintro ⟨a0, a1, a2, a3, a4, a5, a6, ⟨⟩⟩
  kernel_rfl
theorem twith_q1 : loopList (loopOf Tryz.f148 1) 2 = [] := by kernel_rfl
theorem twith_l1 : CodeOK Tryz.prog 0 (.loop (loopOf Tryz.f148 1)) (twith_h.loop 1) := loop_ok E_sortL_ok (twith_s1_ok) (LoopsOK_of twith_q1 trivial)
theorem twith_s0_ok : ∀ v, twith_s0 v = roundOf Tryz.prog E_sortL twith_h 1 0 47 (loopOf Tryz.f148 0) twith_i0 twith_o0 v := by
  rintro ⟨a0, a1, a2, a3, a4, a5, a6, a7, a8, ⟨⟩⟩
  kernel_rfl
theorem twith_q0 : loopList (loopOf Tryz.f148 0) 1 = [] := by kernel_rfl
theorem twith_l0 : CodeOK Tryz.prog 0 (.loop (loopOf Tryz.f148 0)) (twith_h.loop 0) := loop_ok E_sortL_ok (twith_s0_ok) (LoopsOK_of twith_q0 trivial)
theorem twith_okd : ∀ v, twith_d v = pevCall Tryz.prog E_sortL twith_h Tryz.f148 twith_i twith_o twith_r v := by
  rintro ⟨a0, a1, a2, ⟨⟩⟩
  kernel_rfl
theorem twith_q : loopList (bodyOf Tryz.f148) 0 = [(0, loopOf Tryz.f148 0), (1, loopOf Tryz.f148 1)] := by kernel_rfl
theorem twith_spec : SpecOK Tryz.prog 148 (mkCall 3 twith_i twith_o twith_r twith) := call_spec E_sortL_ok Tryz.func148 (by kernel_rfl) (by kernel_rfl) rfl (fun v => (twith_eq v).trans (twith_okd v)) (LoopsOK_of twith_q ⟨twith_l0, twith_l1, trivial⟩)
def E_twith : Env := E_sortL.ext 148 true true (mkCall 3 twith_i twith_o twith_r twith)
theorem E_twith_ok : EnvOK Tryz.prog E_twith := Env.ext_ok E_sortL_ok twith_spec (fun _ => mkCall_local rfl rfl) (fun _ => mkCall_in rfl rfl)
-- archipelago/tour.Link
abbrev tlink_h : Hints := { fp := fun n => match n with | 9 => [[], [28], [0], [0], [], [], [], [], [], [0], [0], [], [], [], [], [], [28], [28, 52, 36, 62], [64], []] | 4 => [[0], [], [], [0], [], [], [], []] | _ => [] }
theorem tlink_okd : ∀ v, tlink_d v = pevCall Tryz.prog E_twith tlink_h Tryz.f124 tlink_i tlink_o tlink_r v := by
  rintro ⟨a0, a1, a2, ⟨⟩⟩
  kernel_rfl
theorem tlink_q : loopList (bodyOf Tryz.f124) 0 = [] := by kernel_rfl
theorem tlink_spec : SpecOK Tryz.prog 124 (mkCall 3 tlink_i tlink_o tlink_r tlink) := call_spec E_twith_ok Tryz.func124 (by kernel_rfl) (by kernel_rfl) rfl (fun v => (tlink_eq v).trans (tlink_okd v)) (LoopsOK_of tlink_q trivial)
def E_tlink : Env := E_twith.ext 124 true true (mkCall 3 tlink_i tlink_o tlink_r tlink)
theorem E_tlink_ok : EnvOK Tryz.prog E_tlink := Env.ext_ok E_twith_ok tlink_spec (fun _ => mkCall_local rfl rfl) (fun _ => mkCall_in rfl rfl)
-- archipelago/forest.there$1: gone through in place
theorem there1_b : Tryz.f154.body.isSome = true := by kernel_rfl
theorem there1_n : (Tryz.f154.name == "runtime.NumGoroutine") = false := by kernel_rfl
theorem there1_z : loops (bodyOf Tryz.f154) = 0 := by kernel_rfl
def E_there1_4 : Env := E_tlink.ext 154 false false (mkInline Tryz.prog E_tlink {} Tryz.f154)
theorem E_there1_4_ok : EnvOK Tryz.prog E_there1_4 := Env.ext_ok E_tlink_ok (inline_spec E_tlink_ok Tryz.func154 there1_b there1_n there1_z) (by simp) (by simp)
-- slices.IndexFunc[[]int,int]
abbrev idxFuncI_there_h : Hints := { loop := fun n => match n with | 0 => loopBy 1 19 idxFuncI_there_i0 idxFuncI_there_o0 idxFuncI_there_s0 | _ => fun _ _ _ => none }
theorem idxFuncI_there_s0_ok : ∀ v, idxFuncI_there_s0 v = roundOf Tryz.prog E_there1_4 idxFuncI_there_h 1 1 19 (loopOf Tryz.f79 0) idxFuncI_there_i0 idxFuncI_there_o0 v := by
  rintro ⟨a0, a1, a2, a3, a4, ⟨⟩⟩
  kernel_rfl
theorem idxFuncI_there_q0 : loopList (loopOf Tryz.f79 0) 1 = [] := by kernel_rfl
theorem idxFuncI_there_l0 : CodeOK Tryz.prog 1 (.loop (loopOf Tryz.f79 0)) (idxFuncI_there_h.loop 0) := loop_ok E_there1_4_ok (idxFuncI_there_s0_ok) (LoopsOK_of idxFuncI_there_q0 trivial)
theorem idxFuncI_there_okd : ∀ v, idxFuncI_there_d v = pevCall Tryz.prog E_there1_4 idxFuncI_there_h Tryz.f79 idxFuncI_there_i idxFuncI_there_o idxFuncI_there_r v := by
  rintro ⟨a0, a1, a2, ⟨⟩⟩
  kernel_rfl
theorem idxFuncI_there_q : loopList (bodyOf Tryz.f79) 0 = [(0, loopOf Tryz.f79 0)] := by kernel_rfl
theorem idxFuncI_there_spec : SpecOK Tryz.prog 79 (mkCall 2 idxFuncI_there_i idxFuncI_there_o idxFuncI_there_r idxFuncI_there) := call_spec E_there1_4_ok Tryz.func79 (by kernel_rfl) (by kernel_rfl) rfl (fun v => (idxFuncI_there_eq v).trans (idxFuncI_there_okd v)) (LoopsOK_of idxFuncI_there_q ⟨idxFuncI_there_l0, trivial⟩)
def E_idxFuncI_there : Env := E_there1_4.extC 79 1 154 (mkCall 2 idxFuncI_there_i idxFuncI_there_o idxFuncI_there_r idxFuncI_there)
theorem E_idxFuncI_there_ok : EnvOK Tryz.prog E_idxFuncI_there := Env.extC_ok E_there1_4_ok idxFuncI_there_spec (mkCall_in rfl rfl)
-- slices.ContainsFunc[[]int,int]
abbrev contFuncI_there_h : Hints := {  }
theorem contFuncI_there_okd : ∀ v, contFuncI_there_d v = pevCall Tryz.prog E_idxFuncI_there contFuncI_there_h Tryz.f50 contFuncI_there_i contFuncI_there_o contFuncI_there_r v := by
  rintro ⟨a0, a1, a2, ⟨⟩⟩
  kernel_rfl
theorem contFuncI_there_q : loopList (bodyOf Tryz.f50) 0 = [] := by kernel_rfl
theorem contFuncI_there_spec : SpecOK Tryz.prog 50 (mkCall 2 contFuncI_there_i contFuncI_there_o contFuncI_there_r contFuncI_there) := call_spec E_idxFuncI_there_ok Tryz.func50 (by kernel_rfl) (by kernel_rfl) rfl (fun v => (contFuncI_there_eq v).trans (contFuncI_there_okd v)) (LoopsOK_of contFuncI_there_q trivial)
def E_contFuncI_there : Env := E_idxFuncI_there.extC 50 1 154 (mkCall 2 contFuncI_there_i contFuncI_there_o contFuncI_there_r contFuncI_there)
theorem E_contFuncI_there_ok : EnvOK Tryz.prog E_contFuncI_there := Env.extC_ok E_idxFuncI_there_ok contFuncI_there_spec (mkCall_in rfl rfl)
-- archipelago/forest.there
abbrev fthere_h : Hints := {  }
theorem fthere_okd : ∀ v, fthere_d v = pevCall Tryz.prog E_contFuncI_there fthere_h Tryz.f128 fthere_i fthere_o fthere_r v := by
  rintro ⟨a0, a1, ⟨⟩⟩
  kernel_rfl
theorem fthere_q : loopList (bodyOf Tryz.f128) 0 = [] := by kernel_rfl
theorem fthere_spec : SpecOK Tryz.prog 128 (mkCall 2 fthere_i fthere_o fthere_r fthere) := call_spec E_contFuncI_there_ok Tryz.func128 (by kernel_rfl) (by kernel_rfl) rfl (fun v => (fthere_eq v).trans (fthere_okd v)) (LoopsOK_of fthere_q trivial)
def E_fthere : Env := E_contFuncI_there.ext 128 true true (mkCall 2 fthere_i fthere_o fthere_r fthere)
theorem E_fthere_ok : EnvOK Tryz.prog E_fthere := Env.ext_ok E_contFuncI_there_ok fthere_spec (fun _ => mkCall_local rfl rfl) (fun _ => mkCall_in rfl rfl)
-- archipelago/forest.ends
abbrev ends_h : Hints := { loop := fun n => match n with | 0 => loopBy 0 21 ends_i0 ends_o0 ends_s0 | _ => fun _ _ _ => none }
theorem ends_s0_ok : ∀ v, ends_s0 v = roundOf Tryz.prog E_fthere ends_h 1 0 21 (loopOf Tryz.f143 0) ends_i0 ends_o0 v := by
  rintro ⟨a0, a1, a2, a3, ⟨⟩⟩
  kernel_rfl
theorem ends_q0 : loopList (loopOf Tryz.f143 0) 1 = [] := by kernel_rfl
theorem ends_l0 : CodeOK Tryz.prog 0 (.loop (loopOf Tryz.f143 0)) (ends_h.loop 0) := loop_ok E_fthere_ok (ends_s0_ok) (LoopsOK_of ends_q0 trivial)
theorem ends_okd : ∀ v, ends_d v = pevCall Tryz.prog E_fthere ends_h Tryz.f143 ends_i ends_o ends_r v := by
  rintro ⟨a0, ⟨⟩⟩
  kernel_rfl
theorem ends_q : loopList (bodyOf Tryz.f143) 0 = [(0, loopOf Tryz.f143 0)] := by kernel_rfl
theorem ends_spec : SpecOK Tryz.prog 143 (mkCall 1 ends_i ends_o ends_r ends) := call_spec E_fthere_ok Tryz.func143 (by kernel_rfl) (by kernel_rfl) rfl (fun v => (ends_eq v).trans (ends_okd v)) (LoopsOK_of ends_q ⟨ends_l0, trivial⟩)
def E_ends : Env := E_fthere.ext 143 true true (mkCall 1 ends_i ends_o ends_r ends)
theorem E_ends_ok : EnvOK Tryz.prog E_ends := Env.ext_ok E_fthere_ok ends_spec (fun _ => mkCall_local rfl rfl) (fun _ => mkCall_in rfl rfl)
-- archipelago/forest.each
abbrev eachLink_h : Hints := { loop := fun n => match n with | 0 => loopBy 0 48 eachLink_i0 eachLink_o0 eachLink_s0 | _ => fun _ _ _ => none, fp := fun n => match n with | 1 => [[0], [], [], [4], []] | _ => [] }
theorem eachLink_s0_ok : ∀ v, eachLink_s0 v = roundOf Tryz.prog E_ends eachLink_h 1 0 48 (loopOf Tryz.f123 0) eachLink_i0 eachLink_o0 v := by
  rintro ⟨a0, a1, a2, a3, a4, a5, a6, ⟨⟩⟩
  kernel_rfl
theorem eachLink_q0 : loopList (loopOf Tryz.f123 0) 1 = [] := by kernel_rfl
theorem eachLink_l0 : CodeOK Tryz.prog 0 (.loop (loopOf Tryz.f123 0)) (eachLink_h.loop 0) := loop_ok E_ends_ok (eachLink_s0_ok) (LoopsOK_of eachLink_q0 trivial)
theorem eachLink_okd : ∀ v, eachLink_d v = pevCall Tryz.prog E_ends eachLink_h Tryz.f123 eachLink_i eachLink_o eachLink_r v := by
  rintro ⟨a0, a1, ⟨⟩⟩
  kernel_rfl
theorem eachLink_q : loopList (bodyOf Tryz.f123) 0 = [(0, loopOf Tryz.f123 0)] := by kernel_rfl
theorem eachLink_spec : SpecOK Tryz.prog 123 (mkCall 3 eachLink_i eachLink_o eachLink_r eachLink) := call_spec E_ends_ok Tryz.func123 (by kernel_rfl) (by kernel_rfl) rfl (fun v => (eachLink_eq v).trans (eachLink_okd v)) (LoopsOK_of eachLink_q ⟨eachLink_l0, trivial⟩)
def E_eachLink : Env := E_ends.extC 123 2 124 (mkCall 3 eachLink_i eachLink_o eachLink_r eachLink)
theorem E_eachLink_ok : EnvOK Tryz.prog E_eachLink := Env.extC_ok E_ends_ok eachLink_spec (mkCall_in rfl rfl)
-- archipelago/forest.Links
abbrev flinks_h : Hints := {  }
theorem flinks_okd : ∀ v, flinks_d v = pevCall Tryz.prog E_eachLink flinks_h Tryz.f91 flinks_i flinks_o flinks_r v := by
  rintro ⟨a0, a1, ⟨⟩⟩
  kernel_rfl
theorem flinks_q : loopList (bodyOf Tryz.f91) 0 = [] := by kernel_rfl
theorem flinks_spec : SpecOK Tryz.prog 91 (mkCall 2 flinks_i flinks_o flinks_r flinks) := call_spec E_eachLink_ok Tryz.func91 (by kernel_rfl) (by kernel_rfl) rfl (fun v => (flinks_eq v).trans (flinks_okd v)) (LoopsOK_of flinks_q trivial)
def E_flinks : Env := E_eachLink.ext 91 true true (mkCall 2 flinks_i flinks_o flinks_r flinks)
theorem E_flinks_ok : EnvOK Tryz.prog E_flinks := Env.ext_ok E_eachLink_ok flinks_spec (fun _ => mkCall_local rfl rfl) (fun _ => mkCall_in rfl rfl)
-- archipelago/forest.Of
abbrev fof_h : Hints := {  }
theorem fof_okd : ∀ v, fof_d v = pevCall Tryz.prog E_flinks fof_h Tryz.f67 fof_i fof_o fof_r v := by
  rintro ⟨a0, a1, ⟨⟩⟩
  kernel_rfl
theorem fof_q : loopList (bodyOf Tryz.f67) 0 = [] := by kernel_rfl
theorem fof_spec : SpecOK Tryz.prog 67 (mkCall 2 fof_i fof_o fof_r fof) := call_spec E_flinks_ok Tryz.func67 (by kernel_rfl) (by kernel_rfl) rfl (fun v => (fof_eq v).trans (fof_okd v)) (LoopsOK_of fof_q trivial)
def E_fof : Env := E_flinks.ext 67 true true (mkCall 2 fof_i fof_o fof_r fof)
theorem E_fof_ok : EnvOK Tryz.prog E_fof := Env.ext_ok E_flinks_ok fof_spec (fun _ => mkCall_local rfl rfl) (fun _ => mkCall_in rfl rfl)
-- cmp.Or[int]
abbrev orI_h : Hints := { loop := fun n => match n with | 0 => loopBy 0 18 orI_i0 orI_o0 orI_s0 | _ => fun _ _ _ => none }
theorem orI_s0_ok : ∀ v, orI_s0 v = roundOf Tryz.prog E_fof orI_h 1 0 18 (loopOf Tryz.f74 0) orI_i0 orI_o0 v := by
  rintro ⟨a0, a1, a2, a3, ⟨⟩⟩
  kernel_rfl
theorem orI_q0 : loopList (loopOf Tryz.f74 0) 1 = [] := by kernel_rfl
theorem orI_l0 : CodeOK Tryz.prog 0 (.loop (loopOf Tryz.f74 0)) (orI_h.loop 0) := loop_ok E_fof_ok (orI_s0_ok) (LoopsOK_of orI_q0 trivial)
theorem orI_okd : ∀ v, orI_d v = pevCall Tryz.prog E_fof orI_h Tryz.f74 orI_i orI_o orI_r v := by
  rintro ⟨a0, ⟨⟩⟩
  kernel_rfl
theorem orI_q : loopList (bodyOf Tryz.f74) 0 = [(0, loopOf Tryz.f74 0)] := by kernel_rfl
theorem orI_spec : SpecOK Tryz.prog 74 (mkCall 1 orI_i orI_o orI_r orI) := call_spec E_fof_ok Tryz.func74 (by kernel_rfl) (by kernel_rfl) rfl (fun v => (orI_eq v).trans (orI_okd v)) (LoopsOK_of orI_q ⟨orI_l0, trivial⟩)
def E_orI : Env := E_fof.ext 74 true true (mkCall 1 orI_i orI_o orI_r orI)
theorem E_orI_ok : EnvOK Tryz.prog E_orI := Env.ext_ok E_fof_ok orI_spec (fun _ => mkCall_local rfl rfl) (fun _ => mkCall_in rfl rfl)
-- archipelago/level.sized
abbrev lsized_h : Hints := {  }
theorem lsized_okd : ∀ v, lsized_d v = pevCall Tryz.prog E_orI lsized_h Tryz.f83 lsized_i lsized_o lsized_r v := by
  rintro ⟨a0, ⟨⟩⟩
  kernel_rfl
theorem lsized_q : loopList (bodyOf Tryz.f83) 0 = [] := by kernel_rfl
theorem lsized_spec : SpecOK Tryz.prog 83 (mkCall 1 lsized_i lsized_o lsized_r lsized) := call_spec E_orI_ok Tryz.func83 (by kernel_rfl) (by kernel_rfl) rfl (fun v => (lsized_eq v).trans (lsized_okd v)) (LoopsOK_of lsized_q trivial)
def E_lsized : Env := E_orI.ext 83 true true (mkCall 1 lsized_i lsized_o lsized_r lsized)
theorem E_lsized_ok : EnvOK Tryz.prog E_lsized := Env.ext_ok E_orI_ok lsized_spec (fun _ => mkCall_local rfl rfl) (fun _ => mkCall_in rfl rfl)
end
end Go.Pev
end
