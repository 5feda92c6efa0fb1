/- A part of the proofs of this seat: L18h L18i T18d L18j SLa SLb SLc SLd SBG18M SLe SLf L18k L18l L18m PevTake PevClaim L18b L18n L18o L18p L18q G18P1. -/
import Derived.Test.YtacapnnkndaonaaP1ef4fc3cf7
import Derived.ProofKit
import Derived.ChangeArms
import Derived.ReadAgain
import Derived.Deep.Slices
import Derived.OpenShut
import Derived.KernelRfl
import Derived.Test.YtacapnnkndaonaaProg
set_option linter.unusedVariables false
set_option linter.unusedSimpArgs false
set_option linter.unusedSectionVars false
section
/- Forests: the program's Right and the document's are the same. -/
namespace Go.Pev.Pl
open Tok

/-- a ring of a forest -/
def RG (n : Int) (xs : List Int) : Prop := Rt xs ∧ xs ≠ [] ∧ minL xs = xs.headD 0 ∧ TI n xs
/-- rings behind others, whose vertices were seen, the last one's first token being known -/
def okR (n : Int) : List Int → Int → List (List Int) → Prop
  | _, _, [] => True
  | seen, last, l :: ls => RG n l ∧ last < l.headD 0 ∧ (∀ t ∈ l, t < n → t ∉ seen) ∧ okR n (seen ++ l.filter (fun t => decide (t < n))) (l.headD 0) ls
def RF (n : Int) (rings : List (List Int)) : Prop := Sz n ∧ okR n [] (-1) rings ∧ ∀ v, 0 ≤ v → v < n → v ∈ rings.flatten
noncomputable instance (n : Int) (rings : List (List Int)) : Decidable (RF n rings) := Classical.propDecidable _
noncomputable instance (n : Int) (xs : List Int) : Decidable (RG n xs) := Classical.propDecidable _

def MI (n : Int) (met : List (Int × Int)) (seen : List Int) : Prop := ∀ t, t < n → (lookupM met t).getD (0 : Int) = if t ∈ seen then 1 else 0

theorem tright_inner (n : Int) (l : List Int) (hl : l.length < 1073741824) (d1 : List (List Int)) (d3 : Int) (d4 : List (List Int)) (d5 d6 : Int) (d7 : List Int) (d8 d9 : Int) (d10 : Bool) (d11 : List Int) (d12 d13 : Bool) (d14 : List Int) (d15 : Int) (d16 : List Int) (d17 : Int) (d18 : Bool) (d19 : Int) (d20 : List Int) (d21 d22 : Bool) :
    ∀ (m k cnt : Nat) (met : List (Int × Int)) (seen : List Int), k + m = l.length → MI n met seen → (l.drop k).Nodup → m < cnt →
    ((∀ t ∈ l.drop k, t < n → t ∉ seen) ∧ ∃ met', iterO tright_s1 cnt (n, d1, met, d3, d4, d5, d6, d7, d8, d9, d10, d11, d12, d13, d14, d15, d16, d17, d18, d19, d20, d21, d22, l, (l.length : Int), (k : Int), ()) =
        some (.inr (.inl (n, d1, met', d3, d4, d5, d6, d7, d8, d9, d10, d11, d12, d13, d14, d15, d16, d17, d18, d19, d20, d21, d22, ()))) ∧ MI n met' (seen ++ (l.drop k).filter (fun t => decide (t < n)))) ∨
    (¬ (∀ t ∈ l.drop k, t < n → t ∉ seen) ∧ iterO tright_s1 cnt (n, d1, met, d3, d4, d5, d6, d7, d8, d9, d10, d11, d12, d13, d14, d15, d16, d17, d18, d19, d20, d21, d22, l, (l.length : Int), (k : Int), ()) = some (.inl (false, ()))) := by
  intro m
  induction m with
  | zero =>
    intro k cnt met seen hk hm hn hc
    obtain ⟨cnt, rfl⟩ : ∃ c, cnt = c + 1 := ⟨cnt - 1, by omega⟩
    have e : l.drop k = [] := List.drop_of_length_le (by omega)
    rw [e]
    refine .inl ⟨by simp, met, ?_, by simpa using hm⟩
    rw [iterO, tright_s1, ilt_nat, decide_eq_false (by omega)]
  | succ m ih =>
    intro k cnt met seen hk hm hn hc
    obtain ⟨cnt, rfl⟩ : ∃ c, cnt = c + 1 := ⟨cnt - 1, by omega⟩
    have hk' : k < l.length := by omega
    have e : l.drop k = l.getD k 0 :: l.drop (k + 1) := by
      rw [List.drop_eq_getElem_cons hk', List.getD_eq_getElem?_getD, List.getElem?_eq_getElem hk', Option.getD_some]
    rw [iterO, tright_s1, ilt_nat, decide_eq_true hk']
    simp only [idx_l (0 : Int) hk']
    rw [e] at hn ⊢
    generalize l.getD k 0 = t at *
    rw [List.nodup_cons] at hn
    rw [wrap_add1 (by omega), ilt_eq]
    by_cases ht : t < n
    · rw [decide_eq_true ht]
      have hmt := hm t ht
      simp only [hmt, ilt_eq]
      by_cases hs : t ∈ seen
      · rw [if_pos hs, decide_eq_true (by omega)]
        exact .inr ⟨fun h => h t (by simp) ht hs, rfl⟩
      · rw [if_neg hs, decide_eq_false (by omega)]
        simp only []
        have w1 : IntKind.wrap .i64 ((0 : Int) + 1) = 1 := by rw [wrap_in (by omega)]; rfl
        rw [w1]
        have hm' : MI n (storeM met t 1) (seen ++ [t]) := by
          intro y hy
          rw [lookup_store]
          by_cases e2 : y = t
          · simp [e2]
          · simp only [e2, if_false, List.mem_append, List.mem_singleton, or_false]; exact hm y hy
        have hiff : (∀ y ∈ t :: l.drop (k + 1), y < n → y ∉ seen) ↔ ∀ y ∈ l.drop (k + 1), y < n → y ∉ seen ++ [t] := by
          constructor
          · intro h y hy hyn hm2
            simp only [List.mem_append, List.mem_singleton] at hm2
            rcases hm2 with h2 | rfl
            · exact h y (List.mem_cons_of_mem _ hy) hyn h2
            · exact hn.1 hy
          · intro h y hy hyn hm2
            rcases List.mem_cons.1 hy with rfl | hy
            · exact hs hm2
            · exact h y hy hyn (by simp [hm2])
        rcases ih (k + 1) cnt _ _ (by omega) hm' hn.2 (by omega) with ⟨q1, met', q2, q3⟩ | ⟨q1, q2⟩
        · refine .inl ⟨hiff.2 q1, met', q2, ?_⟩
          rw [List.filter_cons_of_pos (by simpa using ht)]
          simpa using q3
        · exact .inr ⟨fun h => q1 (hiff.1 h), q2⟩
    · rw [decide_eq_false ht]
      simp only []
      have hm' : MI n (storeM met t (IntKind.wrap .i64 (((lookupM met t).getD (0 : Int)) + (1 : Int)))) seen := by
        intro y hy
        rw [lookup_store, if_neg (by omega)]
        exact hm y hy
      have hiff : (∀ y ∈ t :: l.drop (k + 1), y < n → y ∉ seen) ↔ ∀ y ∈ l.drop (k + 1), y < n → y ∉ seen := by
        constructor
        · intro h y hy; exact h y (List.mem_cons_of_mem _ hy)
        · intro h y hy hyn
          rcases List.mem_cons.1 hy with rfl | hy
          · exact absurd hyn ht
          · exact h y hy hyn
      rcases ih (k + 1) cnt _ _ (by omega) hm' hn.2 (by omega) with ⟨q1, met', q2, q3⟩ | ⟨q1, q2⟩
      · refine .inl ⟨hiff.2 q1, met', q2, ?_⟩
        rw [List.filter_cons_of_neg (by simpa using ht)]
        exact q3
      · exact .inr ⟨fun h => q1 (hiff.1 h), q2⟩

theorem tright_s0_loop (n : Int) (rings : List (List Int)) (hlen : rings.length < 1073741824) (hr : ∀ l ∈ rings, l.length < 9223372036854775808 ∧ ∀ x ∈ l, -9223372036854775808 ≤ x ∧ x ≤ 9223372036854775807) :
    ∀ (ls : List (List Int)) (i cnt : Nat) (met : List (Int × Int)) (last : Int) (seen : List Int), rings.drop i = ls → i ≤ rings.length → MI n met seen → ls.length < cnt →
    (okR n seen last ls ∧ ∃ met' seen', iterO tright_s0 cnt (n, rings, met, last, rings, (rings.length : Int), (i : Int), ()) = some (.inr (.inl (n, rings, met', ()))) ∧ MI n met' seen' ∧ ∀ v, v ∈ seen' ↔ v ∈ seen ∨ (v < n ∧ v ∈ ls.flatten)) ∨
    (¬ okR n seen last ls ∧ iterO tright_s0 cnt (n, rings, met, last, rings, (rings.length : Int), (i : Int), ()) = some (.inl (false, ()))) := by
  have hmany : 4294967296 < many := by simp only [many]; omega
  intro ls
  induction ls with
  | nil =>
    intro i cnt met last seen hd hi hm hc
    obtain ⟨cnt, rfl⟩ : ∃ c, cnt = c + 1 := ⟨cnt - 1, by simp at hc; omega⟩
    have : rings.length ≤ i := by simpa using hd
    refine .inl ⟨trivial, met, seen, ?_, hm, by simp⟩
    rw [iterO, tright_s0, ilt_nat, decide_eq_false (by omega)]
  | cons l ls ih =>
    intro i cnt met last seen hd hi hm hc
    simp only [List.length_cons] at hc
    obtain ⟨cnt, rfl⟩ : ∃ c, cnt = c + 1 := ⟨cnt - 1, by omega⟩
    have hi' : i < rings.length := by
      refine Classical.byContradiction fun h => ?_
      rw [List.drop_of_length_le (by omega)] at hd
      cases hd
    rw [List.drop_eq_getElem_cons hi'] at hd
    simp only [List.cons.injEq] at hd
    obtain ⟨hd1, hd2⟩ := hd
    have hx : rings[i]? = some l := by rw [List.getElem?_eq_getElem hi', hd1]
    have hmem : l ∈ rings := List.mem_of_getElem? hx
    obtain ⟨hl, hlr⟩ := hr l hmem
    rw [iterO, tright_s0, ilt_nat, decide_eq_true hi', okR]
    simp only [idx_some hx, ieq_dec]
    cases l with
    | nil =>
      rw [dlen_l, decide_eq_true (by simp)]
      exact .inr ⟨fun h => h.1.2.1 rfl, rfl⟩
    | cons x tl =>
      rw [dlen_l, decide_eq_false (by simp only [List.length_cons]; omega)]
      have i0 : idx (x :: tl) (0 : Int) = some x := by rw [idx_zero]; rfl
      simp only [i0, List.headD_cons, ile_eq]
      by_cases c1 : x ≤ last
      · rw [decide_eq_true c1]
        exact .inr ⟨fun h => by omega, rfl⟩
      · rw [decide_eq_false c1]
        simp only [rright_val]
        by_cases c2 : Rt (x :: tl)
        · rw [decide_eq_true c2]
          have hl : (x :: tl).length < 1073741824 := by have := c2.1; omega
          simp only [Bool.not_true, minI_val (x :: tl) (by simp) (by omega)]
          by_cases c3 : minL (x :: tl) = x
          · rw [decide_eq_true c3]
            simp only [Bool.not_true]
            rw [goes_val n (x :: tl) (by simp) (by omega) hlr c2.2.2 (fun y hy => by simp at hy; rw [← hy]; exact c3)]
            by_cases c4 : TI n (x :: tl)
            · rw [decide_eq_true c4]
              simp only [Bool.not_true, iterL_eq]
              have hRG : RG n (x :: tl) := ⟨c2, by simp, c3, c4⟩
              rcases tright_inner n (x :: tl) hl rings x rings (rings.length : Int) (i : Int) (x :: tl) x last false (x :: tl) true false (x :: tl) (minL (x :: tl)) (x :: tl) x false n (x :: tl) true false (x :: tl).length 0 many met seen (by omega) hm (by rw [List.drop_zero]; exact c2.2.2) (by omega) with ⟨q1, met', q2, q3⟩ | ⟨q1, q2⟩
              · rw [List.drop_zero] at q1 q3
                have q2' : iterO tright_s1 many (n, rings, met, x, rings, (rings.length : Int), (i : Int), x :: tl, x, last, false, x :: tl, true, false, x :: tl, minL (x :: tl), x :: tl, x, false, n, x :: tl, true, false, x :: tl, ((x :: tl).length : Int), (0 : Int), ()) = _ := q2
                simp only [q2', wrap_add1 (show i + 1 < 9223372036854775808 by omega)]
                rcases ih (i + 1) cnt met' x (seen ++ (x :: tl).filter (fun t => decide (t < n))) hd2 (by omega) q3 (by omega) with ⟨p1, met2, seen2, p2, p3, p4⟩ | ⟨p1, p2⟩
                · refine .inl ⟨⟨hRG, by omega, q1, p1⟩, met2, seen2, p2, p3, fun v => ?_⟩
                  rw [p4, List.mem_append, List.mem_filter, List.flatten_cons, List.mem_append]
                  simp only [decide_eq_true_eq]
                  constructor
                  · rintro ((h | h) | h)
                    · exact .inl h
                    · exact .inr ⟨h.2, .inl h.1⟩
                    · exact .inr ⟨h.1, .inr h.2⟩
                  · rintro (h | ⟨h, h2 | h2⟩)
                    · exact .inl (.inl h)
                    · exact .inl (.inr ⟨h2, h⟩)
                    · exact .inr ⟨h, h2⟩
                · exact .inr ⟨fun h => p1 h.2.2.2, p2⟩
              · rw [List.drop_zero] at q1
                have q2' : iterO tright_s1 many (n, rings, met, x, rings, (rings.length : Int), (i : Int), x :: tl, x, last, false, x :: tl, true, false, x :: tl, minL (x :: tl), x :: tl, x, false, n, x :: tl, true, false, x :: tl, ((x :: tl).length : Int), (0 : Int), ()) = _ := q2
                simp only [q2']
                exact .inr ⟨fun h => q1 h.2.2.1, by trivial⟩
            · rw [decide_eq_false c4]
              exact .inr ⟨fun h => c4 h.1.2.2.2, rfl⟩
          · rw [decide_eq_false c3]
            exact .inr ⟨fun h => c3 h.1.2.2.1, rfl⟩
        · rw [decide_eq_false c2]
          exact .inr ⟨fun h => c2 h.1.1, rfl⟩

theorem tright_val (n : Int) (rings : List (List Int)) (hlen : rings.length < 1073741824) (hr : ∀ l ∈ rings, l.length < 9223372036854775808 ∧ ∀ x ∈ l, -9223372036854775808 ≤ x ∧ x ≤ 9223372036854775807) :
    tright ((n, (rings, ())), ()) = some (decide (RF n rings), ()) := by
  have hmany : 4294967296 < many := by simp only [many]; omega
  rw [tright_eq, tright_d]
  simp only [tsized_val]
  by_cases hS : Sz n
  · rw [decide_eq_true hS]
    simp only [Bool.not_true, iterL_eq, dlen_l]
    rcases tright_s0_loop n rings hlen hr rings 0 many [] (-1) [] (by simp) (by omega) (fun t _ => by simp [lookupM]) (by omega) with ⟨p1, met, seen, p2, p3, p4⟩ | ⟨p1, p2⟩
    · have p2' : iterO tright_s0 many (n, rings, [], -1, rings, (rings.length : Int), (0 : Int), ()) = _ := p2
      simp only [p2']
      obtain ⟨s1, s2⟩ := hS
      obtain ⟨N, rfl⟩ := Int.eq_ofNat_of_zero_le (show 0 ≤ n by omega)
      have e := scanL (step := tright_s2) (fun i => (met, (N : Int), (i : Int), ())) N (fun i => decide ((i : Int) ∉ seen)) (fun _ => .inl (false, ())) (.inr (.inl ())) (by omega)
        (fun i hi => by
          have := p3 (i : Int) (by omega)
          rw [tright_s2, ilt_nat, decide_eq_true hi]
          simp only [this, ieq_dec]
          by_cases h : (i : Int) ∈ seen
          · simp only [h, if_true, not_true]
            rw [wrap_add1 (by omega)]; simp
          · simp [h])
        (by rw [tright_s2, ilt_nat, decide_eq_false (by omega)])
      rw [iterL_eq] at e
      have hv : ∀ v, v ∈ seen ↔ (v < (N : Int) ∧ v ∈ rings.flatten) := fun v => by rw [p4]; simp
      rcases e with ⟨k, k1, k2, _, k4⟩ | ⟨k1, k4⟩
      · have k4' : iterO tright_s2 many (met, (N : Int), (0 : Int), ()) = _ := k4
        rw [k4', decide_eq_false]
        rintro ⟨_, _, h⟩
        simp only [decide_eq_true_eq] at k2
        exact k2 ((hv _).2 ⟨by omega, h (k : Int) (by omega) (by omega)⟩)
      · have k4' : iterO tright_s2 many (met, (N : Int), (0 : Int), ()) = _ := k4
        rw [k4', decide_eq_true]
        refine ⟨⟨s1, s2⟩, p1, fun v v1 v2 => ?_⟩
        obtain ⟨k, rfl⟩ := Int.eq_ofNat_of_zero_le v1
        have := k1 k (by omega)
        simp only [decide_eq_false_iff_not, Classical.not_not] at this
        exact ((hv _).1 this).2
    · have p2' : iterO tright_s0 many (n, rings, [], -1, rings, (rings.length : Int), (0 : Int), ()) = _ := p2
      simp only [p2']
      rw [decide_eq_false (fun h => p1 h.2.1)]
  · rw [decide_eq_false hS, decide_eq_false (fun h => hS h.1)]; rfl
end Go.Pev.Pl
end
section
/- The document's Right is the same. -/
namespace Go.Pev.Pl
open Tok

def MB (N : Nat) (met : List Bool) (seen : List Int) : Prop := met.length = N ∧ ∀ k, k < N → met.getD k false = decide ((k : Int) ∈ seen)

theorem right18_inner (N : Nat) (hN : N ≤ 64) (l : List Int) (hl : l.length < 1073741824) (h0 : ∀ t ∈ l, 0 ≤ t) (d1 : List (List Int)) (d3 d5 : Int) (d8 : List Int) (d9 : Int) (d10 : Bool) (d11 : Int) (d12 : List Int) (d13 d14 : Bool) (d15 d16 : List Int) (d17 : List (List Int)) (d18 : List Int) (d19 : List (List Int)) (d20 d21 : Bool) (d22 : List Int) (d23 d24 : Int) (d25 : Bool) :
    ∀ (m k cnt : Nat) (met : List Bool) (seen : List Int), k + m = l.length → MB N met seen → (l.drop k).Nodup → seen.length + m < 4611686018427387904 → m < cnt →
    ((∀ t ∈ l.drop k, t < (N : Int) → t ∉ seen) ∧ ∃ met', iterO right18_s1 cnt ((N : Int), d1, met, d3, (seen.length : Int), d5, l, (k : Int), d8, d9, d10, d11, d12, d13, d14, d15, d16, d17, d18, d19, d20, d21, d22, d23, d24, d25, ()) =
        some (.inr (.inl ((N : Int), d1, met', d3, ((seen ++ (l.drop k).filter (fun t => decide (t < (N : Int)))).length : Int), d5, d8, d9, d10, d11, d12, d13, d14, d15, d16, d17, d18, d19, d20, d21, d22, d23, d24, d25, ()))) ∧ MB N met' (seen ++ (l.drop k).filter (fun t => decide (t < (N : Int))))) ∨
    (¬ (∀ t ∈ l.drop k, t < (N : Int) → t ∉ seen) ∧ iterO right18_s1 cnt ((N : Int), d1, met, d3, (seen.length : Int), d5, l, (k : Int), d8, d9, d10, d11, d12, d13, d14, d15, d16, d17, d18, d19, d20, d21, d22, d23, d24, d25, ()) = some (.inl (false, ()))) := by
  intro m
  induction m with
  | zero =>
    intro k cnt met seen hk hm hn hsl hc
    obtain ⟨cnt, rfl⟩ : ∃ c, cnt = c + 1 := ⟨cnt - 1, by omega⟩
    have e : l.drop k = [] := List.drop_of_length_le (by omega)
    rw [e]
    refine .inl ⟨by simp, met, ?_, by simpa using hm⟩
    rw [iterO, right18_s1, dlen_l, ilt_nat, decide_eq_false (by omega)]
    simp
  | succ m ih =>
    intro k cnt met seen hk hm hn hsl hc
    obtain ⟨cnt, rfl⟩ : ∃ c, cnt = c + 1 := ⟨cnt - 1, by omega⟩
    have hk' : k < l.length := by omega
    have e : l.drop k = l.getD k 0 :: l.drop (k + 1) := by
      rw [List.drop_eq_getElem_cons hk', List.getD_eq_getElem?_getD, List.getElem?_eq_getElem hk', Option.getD_some]
    have hpos : 0 ≤ l.getD k 0 := h0 _ (by rw [List.getD_eq_getElem?_getD, List.getElem?_eq_getElem hk', Option.getD_some]; exact List.getElem_mem hk')
    rw [iterO, right18_s1, dlen_l, ilt_nat, decide_eq_true hk']
    simp only [idx_l (0 : Int) hk']
    rw [e] at hn ⊢
    generalize l.getD k 0 = t at *
    rw [List.nodup_cons] at hn
    rw [wrap_add1 (show k + 1 < 9223372036854775808 by omega), ilt_eq]
    by_cases ht : t < (N : Int)
    · rw [decide_eq_true ht]
      obtain ⟨q, rfl⟩ := Int.eq_ofNat_of_zero_le hpos
      have hq : q < met.length := by rw [hm.1]; omega
      have hmq := hm.2 q (by omega)
      simp only [idx_l false hq, dget_l, dset_l, hmq]
      by_cases hs : (q : Int) ∈ seen
      · rw [decide_eq_true hs]
        exact .inr ⟨fun h => h (q : Int) (by simp) ht hs, rfl⟩
      · rw [decide_eq_false hs]
        simp only []
        have hm' : MB N (met.set q true) (seen ++ [(q : Int)]) := by
          refine ⟨by simp [hm.1], fun y hy => ?_⟩
          by_cases e2 : y = q
          · subst e2
            simp [List.getD_eq_getElem?_getD, hq]
          · have h3 := hm.2 y hy
            have e3 : ¬ (y : Int) = (q : Int) := by omega
            rw [List.getD_eq_getElem?_getD, List.getElem?_set_ne (Ne.symm e2), ← List.getD_eq_getElem?_getD, h3]
            simp [e3]
        have hlen : (((seen.length : Nat) : Int)) = ((seen.length : Nat) : Int) := rfl
        have hw : IntKind.wrap .i64 ((seen.length : Int) + 1) = ((seen ++ [(q : Int)]).length : Int) := by
          rw [wrap_in (by omega)]; simp
        rw [hw]
        have hiff : (∀ y ∈ (q : Int) :: l.drop (k + 1), y < (N : Int) → y ∉ seen) ↔ ∀ y ∈ l.drop (k + 1), y < (N : Int) → y ∉ seen ++ [(q : Int)] := by
          constructor
          · intro h y hy hyn hm2
            simp only [List.mem_append, List.mem_singleton] at hm2
            rcases hm2 with h2 | rfl
            · exact h y (List.mem_cons_of_mem _ hy) hyn h2
            · exact hn.1 hy
          · intro h y hy hyn hm2
            rcases List.mem_cons.1 hy with rfl | hy
            · exact hs hm2
            · exact h y hy hyn (by simp [hm2])
        rcases ih (k + 1) cnt _ _ (by omega) hm' hn.2 (by simp; omega) (by omega) with ⟨q1, met', q2, q3⟩ | ⟨q1, q2⟩
        · refine .inl ⟨hiff.2 q1, met', ?_, ?_⟩
          · rw [List.filter_cons_of_pos (by simpa using ht)]
            rw [q2, List.append_assoc]
            rfl
          · rw [List.filter_cons_of_pos (by simpa using ht)]
            simpa using q3
        · exact .inr ⟨fun h => q1 (hiff.1 h), q2⟩
    · rw [decide_eq_false ht]
      simp only []
      have hiff : (∀ y ∈ t :: l.drop (k + 1), y < (N : Int) → y ∉ seen) ↔ ∀ y ∈ l.drop (k + 1), y < (N : Int) → y ∉ seen := by
        constructor
        · intro h y hy; exact h y (List.mem_cons_of_mem _ hy)
        · intro h y hy hyn
          rcases List.mem_cons.1 hy with rfl | hy
          · exact absurd hyn ht
          · exact h y hy hyn
      rcases ih (k + 1) cnt _ _ (by omega) hm hn.2 (by omega) (by omega) with ⟨q1, met', q2, q3⟩ | ⟨q1, q2⟩
      · refine .inl ⟨hiff.2 q1, met', ?_, ?_⟩
        · rw [List.filter_cons_of_neg (by simpa using ht)]
          exact q2
        · rw [List.filter_cons_of_neg (by simpa using ht)]
          exact q3
      · exact .inr ⟨fun h => q1 (hiff.1 h), q2⟩

/-- as it is least: it begins with its least token -/
theorem plain_self {xs : List Int} (hr : Rt xs) (h : xs ≠ []) : plain xs = xs ↔ minL xs = xs.headD 0 := by
  obtain ⟨a, b, h1, h2⟩ := plain_nonempty hr h
  constructor
  · intro e
    rw [e] at h2
    rw [h2]
    have : minL xs = minL xs := rfl
    conv => lhs; rw [← h2]
    rfl
  · intro e
    cases a with
    | nil => rw [h2, List.append_nil]; exact h1.symm
    | cons y a =>
      exfalso
      have hn := hr.2.2
      have hy : y = minL xs := by rw [e, h1]; rfl
      rw [h1, List.cons_append, List.nodup_cons] at hn
      exact hn.1 (by rw [← hy]; simp)

theorem right18_s0_loop (N : Nat) (hN1 : 1 ≤ N) (hN : N ≤ 64) (rings : List (List Int)) (hlen : rings.length ≤ 64) (hr : ∀ l ∈ rings, l.length < 9223372036854775808 ∧ ∀ x ∈ l, -9223372036854775808 ≤ x ∧ x ≤ 9223372036854775807) :
    ∀ (ls : List (List Int)) (i cnt : Nat) (met : List Bool) (last : Int) (seen : List Int), rings.drop i = ls → i ≤ rings.length → MB N met seen → seen.length ≤ i * 1073741824 → ls.length < cnt →
    (okR (N : Int) seen last ls ∧ ∃ met' seen', iterO right18_s0 cnt ((N : Int), rings, met, last, (seen.length : Int), (i : Int), ()) = some (.inr (.inl ((N : Int), rings, (seen'.length : Int), ()))) ∧ MB N met' seen' ∧ seen' = seen ++ ls.flatten.filter (fun t => decide (t < (N : Int)))) ∨
    (¬ okR (N : Int) seen last ls ∧ iterO right18_s0 cnt ((N : Int), rings, met, last, (seen.length : Int), (i : Int), ()) = some (.inl (false, ()))) := by
  have hmany : 4294967296 < many := by simp only [many]; omega
  intro ls
  induction ls with
  | nil =>
    intro i cnt met last seen hd hi hm hsl hc
    obtain ⟨cnt, rfl⟩ : ∃ c, cnt = c + 1 := ⟨cnt - 1, by simp at hc; omega⟩
    have : rings.length ≤ i := by simpa using hd
    refine .inl ⟨trivial, met, seen, ?_, hm, by simp⟩
    rw [iterO, right18_s0, dlen_l, ilt_nat, decide_eq_false (by omega)]
  | cons l ls ih =>
    intro i cnt met last seen hd hi hm hsl hc
    simp only [List.length_cons] at hc
    obtain ⟨cnt, rfl⟩ : ∃ c, cnt = c + 1 := ⟨cnt - 1, by omega⟩
    have hi' : i < rings.length := by
      refine Classical.byContradiction fun h => ?_
      rw [List.drop_of_length_le (by omega)] at hd
      cases hd
    rw [List.drop_eq_getElem_cons hi'] at hd
    simp only [List.cons.injEq] at hd
    obtain ⟨hd1, hd2⟩ := hd
    have hx : rings[i]? = some l := by rw [List.getElem?_eq_getElem hi', hd1]
    have hmem : l ∈ rings := List.mem_of_getElem? hx
    obtain ⟨hl, hlr⟩ := hr l hmem
    rw [iterO, right18_s0, dlen_l, ilt_nat, decide_eq_true hi', okR]
    simp only [idx_some hx, right13_val]
    by_cases c2 : Rt l
    · rw [decide_eq_true c2]
      have hl : l.length < 1073741824 := by have := c2.1; omega
      simp only [Bool.not_true]
      cases l with
      | nil =>
        rw [dlen_l, ieq_dec, decide_eq_true (by simp)]
        exact .inr ⟨fun h => h.1.2.1 rfl, rfl⟩
      | cons x tl =>
        rw [dlen_l, ieq_dec, decide_eq_false (by simp only [List.length_cons]; omega)]
        simp only [tree18_val (N : Int) (x :: tl) hl hlr c2.2.2]
        by_cases c4 : TI (N : Int) (x :: tl)
        · rw [decide_eq_true c4]
          simp only [Bool.not_true, plain13_val]
          rw [lists14_val _ _ (by simp) (by
            intro y hy
            simp only [List.mem_singleton] at hy
            subst hy
            obtain ⟨a, b, q1, q2⟩ := plain_nonempty c2 (by simp)
            have := congrArg List.length q1
            rw [q2]
            simp only [List.length_cons, List.length_append] at this hl ⊢
            omega)]
          have hps := plain_self c2 (by simp)
          have hps2 : ([plain (x :: tl)] = [x :: tl]) ↔ minL (x :: tl) = x := by simpa using hps
          by_cases c3 : minL (x :: tl) = x
          · rw [decide_eq_true (hps2.2 c3)]
            have i0 : idx (x :: tl) (0 : Int) = some x := by rw [idx_zero]; rfl
            simp only [Bool.not_true, i0, List.headD_cons, ile_eq]
            by_cases c1 : x ≤ last
            · rw [decide_eq_true c1]
              exact .inr ⟨fun h => by omega, rfl⟩
            · rw [decide_eq_false c1]
              simp only [iterL_eq]
              have hRG : RG (N : Int) (x :: tl) := ⟨c2, by simp, c3, c4⟩
              rcases right18_inner N hN (x :: tl) hl (fun t ht => (c2.2.1 t ht).1) rings x (i : Int) (x :: tl) ((x :: tl).length : Int) false (N : Int) (x :: tl) true false (x :: tl) (plain (x :: tl)) [plain (x :: tl)] (x :: tl) [x :: tl] true false (x :: tl) x last false (x :: tl).length 0 many met seen (by omega) hm (by rw [List.drop_zero]; exact c2.2.2) (by omega) (by omega) with ⟨q1, met', q2, q3⟩ | ⟨q1, q2⟩
              · rw [List.drop_zero] at q1 q3 q2
                have q2' : iterO right18_s1 many ((N : Int), rings, met, x, (seen.length : Int), (i : Int), x :: tl, (0 : Int), x :: tl, ((x :: tl).length : Int), false, (N : Int), x :: tl, true, false, x :: tl, plain (x :: tl), [plain (x :: tl)], x :: tl, [x :: tl], true, false, x :: tl, x, last, false, ()) = _ := q2
                simp only [q2', wrap_add1 (show i + 1 < 9223372036854775808 by omega)]
                have hfl : ((x :: tl).filter (fun t => decide (t < (N : Int)))).length ≤ (x :: tl).length := List.length_filter_le _ _
                rcases ih (i + 1) cnt met' x (seen ++ (x :: tl).filter (fun t => decide (t < (N : Int)))) hd2 (by omega) q3 (by rw [List.length_append]; omega) (by omega) with ⟨p1, met2, seen2, p2, p3, p4⟩ | ⟨p1, p2⟩
                · refine .inl ⟨⟨hRG, by omega, q1, p1⟩, met2, seen2, p2, p3, ?_⟩
                  rw [p4, List.flatten_cons, List.filter_append, List.append_assoc]
                · exact .inr ⟨fun h => p1 h.2.2.2, p2⟩
              · rw [List.drop_zero] at q1
                have q2' : iterO right18_s1 many ((N : Int), rings, met, x, (seen.length : Int), (i : Int), x :: tl, (0 : Int), x :: tl, ((x :: tl).length : Int), false, (N : Int), x :: tl, true, false, x :: tl, plain (x :: tl), [plain (x :: tl)], x :: tl, [x :: tl], true, false, x :: tl, x, last, false, ()) = _ := q2
                simp only [q2']
                exact .inr ⟨fun h => q1 h.2.2.1, by trivial⟩
          · rw [decide_eq_false (fun h => c3 (hps2.1 h))]
            exact .inr ⟨fun h => c3 h.1.2.2.1, rfl⟩
        · rw [decide_eq_false c4]
          exact .inr ⟨fun h => c4 h.1.2.2.2, rfl⟩
    · rw [decide_eq_false c2]
      exact .inr ⟨fun h => c2 h.1.1, rfl⟩

/-- vertices that are seen: each once -/
theorem okR_nodup {n : Int} : ∀ {ls : List (List Int)} {seen : List Int} {last : Int}, okR n seen last ls → seen.Nodup → (seen ++ ls.flatten.filter (fun t => decide (t < n))).Nodup ∧ ∀ l ∈ ls, RG n l := by
  intro ls
  induction ls with
  | nil => intro seen last _ h; simpa using h
  | cons l ls ih =>
    intro seen last ⟨h1, h2, h3, h4⟩ hs
    obtain ⟨g1, g2⟩ := ih h4 (by
      rw [List.nodup_append]
      refine ⟨hs, (h1.1.2.2).filter _, fun a ha b hb => ?_⟩
      rintro rfl
      simp only [List.mem_filter, decide_eq_true_eq] at hb
      exact h3 a hb.1 hb.2 ha)
    refine ⟨by rw [List.flatten_cons, List.filter_append, ← List.append_assoc]; exact g1, fun k hk => ?_⟩
    rcases List.mem_cons.1 hk with rfl | hk
    · exact h1
    · exact g2 k hk
theorem RG_head {n : Int} {l : List Int} (h : RG n l) : In n (l.headD 0) := by
  obtain ⟨h1, h2, h3, h4⟩ := h
  cases l with
  | nil => exact absurd rfl h2
  | cons x l => exact TI_head h4 h3
theorem okR_len {n : Int} (hn : 1 ≤ n) : ∀ {ls : List (List Int)} {seen : List Int} {last : Int}, okR n seen last ls → -1 ≤ last → last < n → (ls.length : Int) ≤ n - 1 - last := by
  intro ls
  induction ls with
  | nil => intro seen last _ _ h; simp; omega
  | cons l ls ih =>
    intro seen last ⟨h1, h2, h3, h4⟩ hl hl2
    have hh := (RG_head h1).2.2
    have := ih h4 (by omega) hh.2
    simp only [List.length_cons]
    omega

theorem right18_val (n : Int) (rings : List (List Int)) (hlen : rings.length < 1073741824) (hr : ∀ l ∈ rings, l.length < 9223372036854775808 ∧ ∀ x ∈ l, -9223372036854775808 ≤ x ∧ x ≤ 9223372036854775807) :
    right18 ((n, (rings, ())), ()) = some (decide (RF n rings), ()) := by
  have hmany : 4294967296 < many := by simp only [many]; omega
  rw [right18_eq, right18_d]
  simp only [ilt_eq, dlen_l]
  by_cases h1 : n < 1
  · rw [decide_eq_true h1, decide_eq_false (show ¬ RF n rings from fun h => by have := h.1.1; omega)]
  · rw [decide_eq_false h1]
    simp only []
    by_cases h2 : 64 < n
    · rw [decide_eq_true h2, decide_eq_false (show ¬ RF n rings from fun h => by have := h.1.2; omega)]
    · rw [decide_eq_false h2]
      simp only []
      by_cases h3 : n < (rings.length : Int)
      · rw [decide_eq_true h3, decide_eq_false (show ¬ RF n rings from fun h => by
          have := okR_len (by omega) h.2.1 (by omega) (by omega)
          omega)]
      · rw [decide_eq_false h3]
        obtain ⟨N, rfl⟩ := Int.eq_ofNat_of_zero_le (show 0 ≤ n by omega)
        have f1 : fitsI (N : Int) = true := (fitsI_iff _).2 (by omega)
        have f2 : ile (N : Int) (N : Int) = true := by rw [ile_eq]; simp
        simp only [f1, f2, Bool.and_self, Bool.and_true, iterL_eq]
        have hMB : MB N (drep (dnat (N : Int)) false) [] := by
          refine ⟨by simp [drep, dnat_l], fun k hk => ?_⟩
          simp [drep, dnat_l, hk]
        rcases right18_s0_loop N (by omega) (by omega) rings (by omega) hr rings 0 many _ (-1) [] (by simp) (by omega) hMB (by simp) (by omega) with ⟨p1, met, seen, p2, p3, p4⟩ | ⟨p1, p2⟩
        · have p2' : iterO right18_s0 many ((N : Int), rings, drep (dnat (N : Int)) false, -1, (0 : Int), (0 : Int), ()) = _ := p2
          simp only [p2', ieq_dec]
          obtain ⟨q1, q2⟩ := okR_nodup p1 (by simp)
          rw [← p4] at q1
          have hsub : ∀ x ∈ seen, x ∈ (List.range N).map (fun (k : Nat) => (k : Int)) := by
            intro x hx
            rw [p4] at hx
            simp only [List.nil_append, List.mem_filter, List.mem_flatten, decide_eq_true_eq] at hx
            obtain ⟨⟨l, hl, hxl⟩, hxn⟩ := hx
            have := ((q2 l hl).1.2.1 x hxl).1
            rw [List.mem_map]
            exact ⟨x.toNat, by rw [List.mem_range]; omega, by omega⟩
          have hv : ∀ v, v ∈ seen ↔ (v < (N : Int) ∧ v ∈ rings.flatten) := fun v => by rw [p4, List.nil_append, List.mem_filter, decide_eq_true_eq, and_comm]
          have hS : Sz (N : Int) := ⟨by omega, by omega⟩
          by_cases hc : (seen.length : Int) = (N : Int)
          · rw [decide_eq_true hc, decide_eq_true]
            refine ⟨hS, p1, fun v v1 v2 => ?_⟩
            have := nodup_sub_eq q1 hsub (by simp; omega) v (by rw [List.mem_map]; exact ⟨v.toNat, by rw [List.mem_range]; omega, by omega⟩)
            exact ((hv v).1 this).2
          · rw [decide_eq_false hc, decide_eq_false]
            rintro ⟨_, _, h⟩
            have a1 := nodup_sub_len q1 hsub
            have hrn : ((List.range N).map (fun (k : Nat) => (k : Int))).Nodup := by
              rw [List.Nodup, List.pairwise_map]
              exact List.nodup_range.imp fun h e => h (by omega)
            have a2 := nodup_sub_len (a := (List.range N).map (fun (k : Nat) => (k : Int))) (b := seen) hrn fun x hx => by
              rw [List.mem_map] at hx
              obtain ⟨k, hk, rfl⟩ := hx
              rw [List.mem_range] at hk
              exact (hv _).2 ⟨by omega, h (k : Int) (by omega) (by omega)⟩
            simp only [List.length_map, List.length_range] at a1 a2
            omega
        · have p2' : iterO right18_s0 many ((N : Int), rings, drep (dnat (N : Int)) false, -1, (0 : Int), (0 : Int), ()) = _ := p2
          simp only [p2']
          rw [decide_eq_false (fun h => p1 h.2.1)]
end Go.Pev.Pl
end
section
/- Two rounds are joined by an arc and its way back; and parted again. No program in sight. -/
namespace Go.Pev.Pl.Tok

theorem goes_T0 {v : Int} {p : List Tok} {c : List Int} (h : run ([v], [v]) p = some ([v], c)) (hc : ∀ x ∈ c, Tok.ver x ∈ p) (hn : p.Nodup) : T p := by
  cases p with
  | nil =>
    cases h
    have := hc v (by simp)
    cases this
  | cons t p =>
    have h' := h
    rw [run_cons, Option.bind_eq_some_iff] at h'
    obtain ⟨s1, h1, h2⟩ := h'
    rcases step_cases h1 with ⟨y, r, rfl, hw, rfl⟩ | ⟨a, b, r, rfl, hw, rfl⟩ | ⟨a, b, r, rfl, hw, hh, hnc, rfl⟩
    · simp only [List.cons.injEq] at hw
      obtain ⟨rfl, rfl⟩ := hw
      exact Goes.toT ⟨_, p, c, rfl, h, hc⟩ hn
    · simp at hw
    · simp only [List.cons.injEq] at hw
      obtain ⟨rfl, rfl⟩ := hw
      simp only at hnc
      have hne : v ≠ b := by rintro rfl; exact hnc (by simp)
      have hT : T ([Tok.arc v b] ++ comp [Tok.arc v b] [b, v]) := by
        have : comp [Tok.arc v b] [b, v] = [.ver b, .arc b v, .ver v] := by simp [comp]
        rw [this]
        have h3 := T.add (.ver v) [] b (T.one v) hne (by simp; exact Ne.symm hne)
        exact T.rot [.ver v] [.arc v b, .ver b, .arc b v] h3
      have := goes_T p [.arc v b] [b, v] [b, v] c v (.arc v b) h2 ⟨by simp; exact Ne.symm hne, by simp⟩ (by simp) rfl hT (by
        intro x hx
        have e : comp [Tok.arc v b] [b, v] = [.ver b, .arc b v, .ver v] := by simp [comp]
        rw [e] at hx
        simp at hx
        simp [hx]) hc hn
      exact this

theorem T.join {u v : Int} {a b : List Tok} (hA : T (.ver u :: a)) (hB : T (.ver v :: b)) (hd : ∀ x, Tok.ver x ∈ Tok.ver u :: a → Tok.ver x ∉ Tok.ver v :: b) :
    T (.ver u :: .arc u v :: (.ver v :: b ++ .arc v u :: a)) := by
  obtain ⟨_, fA2, fA3⟩ := hA.facts
  obtain ⟨_, fB2, fB3⟩ := hB.facts
  have nA := hA.nodup
  have nB := hB.nodup
  obtain ⟨_, _, c1, e1, h1, m1⟩ := hA.toGoes
  cases e1
  obtain ⟨_, _, c2, e2, h2, m2⟩ := hB.toGoes
  cases e2
  have huv : u ≠ v := by rintro rfl; exact hd u (by simp) (by simp)
  have nAB : ∀ t, t ∈ Tok.ver u :: a → t ∉ Tok.ver v :: b := fun t ht hb => hd _ (fA2 t ht) (fB2 t hb)
  have n1 : Tok.arc u v ∉ Tok.ver u :: a := fun h => hd v (fA3 _ _ h).2.1 (by simp)
  have n2 : Tok.arc u v ∉ Tok.ver v :: b := fun h => hd u (by simp) (fB3 _ _ h).1
  have n3 : Tok.arc v u ∉ Tok.ver u :: a := fun h => hd v (fA3 _ _ h).1 (by simp)
  have n4 : Tok.arc v u ∉ Tok.ver v :: b := fun h => hd u (by simp) (fB3 _ _ h).2.1
  have hnd : (Tok.ver u :: .arc u v :: (.ver v :: b ++ .arc v u :: a)).Nodup := by
    rw [List.nodup_cons] at nA
    have q1 : Tok.ver u ∉ Tok.ver v :: b := nAB _ (by simp)
    rw [List.nodup_cons, List.nodup_cons, List.nodup_append, List.nodup_cons (a := Tok.arc v u)]
    refine ⟨?_, ?_, nB, ⟨fun h => n3 (List.mem_cons_of_mem _ h), nA.2⟩, fun x hx y hy => ?_⟩
    · intro h
      rcases List.mem_cons.1 h with h | h
      · cases h
      · rcases List.mem_append.1 h with h | h
        · exact q1 h
        · rcases List.mem_cons.1 h with h | h
          · cases h
          · exact nA.1 h
    · intro h
      rcases List.mem_append.1 h with h | h
      · exact n2 h
      · rcases List.mem_cons.1 h with h | h
        · cases h; exact huv rfl
        · exact n1 (List.mem_cons_of_mem _ h)
    · rintro rfl
      rcases List.mem_cons.1 hy with h | h
      · subst h; exact n4 hx
      · exact nAB x (List.mem_cons_of_mem _ h) hx
  rw [run_cons, step_ver, Option.bind_some] at h1
  obtain ⟨d2, k1, k2⟩ := run_frame (Z := (· = u)) (c2 := [v, u]) (low := [u]) h2 (by simp) (fun y => by simp) (fun p w hm => by rintro rfl; exact hd w (by simp) (fB3 _ _ hm).2.1) (by simp)
  obtain ⟨d3, g1, g2⟩ := run_frame (Z := (· ∈ c2)) (c2 := d2) (low := []) h1 (by simp) (fun y => by rw [k2]; simp [or_comm]) (fun p w hm hz => hd w (fA3 _ _ (List.mem_cons_of_mem _ hm)).2.1 (m2 w hz)) (by simp)
  refine Goes.toT ⟨u, _, d3, rfl, ?_, fun x hx => ?_⟩ hnd
  · rw [run_cons, step_ver, Option.bind_some, run_cons, step_push _ _ _ _ (by simp) (by simp; exact Ne.symm huv), Option.bind_some, run_append]
    rw [show ([v] ++ [u] : List Int) = [v, u] from rfl] at k1
    rw [k1, Option.bind_some, run_cons, step_pop, Option.bind_some]
    simpa using g1
  · rcases (g2 x).1 hx with h | h
    · have := m1 x h
      simp only [List.mem_cons, List.mem_append] at this ⊢
      rcases this with h | h <;> simp [h]
    · have := m2 x h
      simp only [List.mem_cons, List.mem_append] at this ⊢
      rcases this with h | h <;> simp [h]

theorem run_un {u v : Int} (huv : u ≠ v) : ∀ {l : List Tok} {x w1 c c1 c0 : List Int}, run (x ++ [v, u], c) l = some (w1, c1) → Tok.arc v u ∉ l → (∀ y, y ∈ c ↔ y ∈ c0 ∨ y = u) → u ∉ c0 →
    ∃ x' d, w1 = x' ++ [v, u] ∧ run (x ++ [v], c0) l = some (x' ++ [v], d) ∧ (∀ y, y ∈ c1 ↔ y ∈ d ∨ y = u) ∧ u ∉ d := by
  intro l
  induction l with
  | nil => intro x w1 c c1 c0 h _ hc hu; cases h; exact ⟨x, c0, rfl, rfl, hc, hu⟩
  | cons t l ih =>
    intro x w1 c c1 c0 h hna hc hu
    rw [run_cons, Option.bind_eq_some_iff] at h
    obtain ⟨s1, h1, h2⟩ := h
    have hna' : Tok.arc v u ∉ l := fun h => hna (List.mem_cons_of_mem _ h)
    rcases step_cases h1 with ⟨y, r, rfl, hw, rfl⟩ | ⟨a, b, r, rfl, hw, rfl⟩ | ⟨a, b, r, rfl, hw, hh, hnc, rfl⟩
    · obtain ⟨x', d, g1, g2, g3⟩ := ih h2 hna' hc hu
      refine ⟨x', d, g1, ?_, g3⟩
      simp only at hw
      have : ∃ r', x ++ [v] = y :: r' := by
        cases x with
        | nil => simp at hw; exact ⟨[], by simp [hw.1]⟩
        | cons z x => simp at hw; exact ⟨x ++ [v], by simp [hw.1]⟩
      obtain ⟨r', e⟩ := this
      rw [run_cons, e, step_ver, Option.bind_some, ← e]
      exact g2
    · simp only at hw
      cases x with
      | nil =>
        simp only [List.nil_append, List.cons.injEq] at hw
        obtain ⟨rfl, rfl, _⟩ := hw
        exact absurd (by simp) hna
      | cons z x =>
        simp only [List.cons_append, List.cons.injEq] at hw
        obtain ⟨rfl, hw⟩ := hw
        simp only [← hw] at h2
        obtain ⟨x', d, g1, g2, g3⟩ := ih h2 hna' hc hu
        refine ⟨x', d, g1, ?_, g3⟩
        have : ∃ r', x ++ [v] = b :: r' := by
          cases x with
          | nil => simp at hw; exact ⟨[], by simp [hw.1]⟩
          | cons y x => simp at hw; exact ⟨x ++ [v], by simp [hw.1]⟩
        obtain ⟨r', e⟩ := this
        rw [run_cons, List.cons_append, e, step_pop, Option.bind_some, ← e]
        exact g2
    · simp only at hw hnc
      have hub : u ≠ b := by rintro rfl; exact hnc ((hc u).2 (.inr rfl))
      have hbc : b ∉ c0 := fun h => hnc ((hc b).2 (.inl h))
      have h2' : run ((b :: x) ++ [v, u], b :: c) l = some (w1, c1) := by
        rw [← hw] at h2
        exact h2
      obtain ⟨x', d, g1, g2, g3⟩ := ih (c0 := b :: c0) h2' hna' (fun y => by simp only [List.mem_cons, hc, or_assoc]) (by
        intro hm
        rcases List.mem_cons.1 hm with h | h
        · exact hub h
        · exact hu h)
      refine ⟨x', d, g1, ?_, g3⟩
      have : ∃ r', x ++ [v] = a :: r' ∧ r'.head? ≠ some b := by
        cases x with
        | nil =>
          simp at hw
          exact ⟨[], by simp [hw.1], by simp⟩
        | cons z x =>
          simp only [List.cons_append, List.cons.injEq] at hw
          refine ⟨x ++ [v], by simp [hw.1], ?_⟩
          rw [← hw.2] at hh
          cases x with
          | nil => simpa using hh
          | cons y x => simpa using hh
      obtain ⟨r', e, e2⟩ := this
      rw [run_cons, e, step_push _ _ _ _ e2 hbc, Option.bind_some, ← e]
      exact g2

theorem T.split {u v : Int} {p q : List Tok} (h : T (.arc u v :: (p ++ .arc v u :: q))) : T p ∧ Tok.ver v ∈ p := by
  have hn := h.nodup
  obtain ⟨_, f2, f3⟩ := h.facts
  have huv : u ≠ v := (f3 u v (by simp)).2.2.2
  obtain ⟨t, ht⟩ : ∃ t, (Tok.arc u v :: (p ++ .arc v u :: q)).getLast? = some t := ⟨_, List.getLast?_eq_some_getLast (by simp)⟩
  obtain ⟨c, h1, h2⟩ := h.toC _ (Rot.refl _) t ht
  rw [run_cons, Option.bind_eq_some_iff] at h1
  obtain ⟨s1, k1, k2⟩ := h1
  rcases step_cases k1 with ⟨y, r, e, hw, _⟩ | ⟨a, b, r, e, hw, _⟩ | ⟨a, b, r, e, hw, hh, hnc, rfl⟩
  · cases e
  · cases e; simp at hw
  · cases e
    simp only [List.cons.injEq] at hw
    obtain ⟨htu, rfl⟩ := hw
    rw [htu] at k2
    simp only at k2
    rw [run_append, Option.bind_eq_some_iff] at k2
    obtain ⟨⟨w1, c1⟩, g1, g2⟩ := k2
    have hi : Inv ([v, u], [v, u]) := ⟨by simp; exact Ne.symm huv, by simp⟩
    obtain ⟨i1, i2, _⟩ := run_inv g1 hi
    rw [List.nodup_cons, List.nodup_append, List.nodup_cons (a := Tok.arc v u)] at hn
    have hnp : Tok.arc v u ∉ p := fun hm => hn.2.2.2 _ hm _ (by simp) rfl
    obtain ⟨x', d, e1, e2, e3, e4⟩ := run_un (x := []) (c0 := [v]) huv g1 hnp (fun y => by simp) (by simp; exact huv)
    rw [run_cons, Option.bind_eq_some_iff] at g2
    obtain ⟨s2, j1, j2⟩ := g2
    have hx' : x' = [] ∧ s2 = ([u], c1) := by
      rcases step_cases j1 with ⟨y, r, e, hw, _⟩ | ⟨a, b, r, e, hw, hs⟩ | ⟨a, b, r, e, hw, hh, hnc, _⟩
      · cases e
      · cases e
        simp only at hw
        rw [e1] at hw
        cases x' with
        | nil =>
          simp only [List.nil_append, List.cons.injEq, true_and] at hw
          rw [hs, ← hw]
          exact ⟨rfl, rfl⟩
        | cons z x' =>
          exfalso
          have hnd := i1.1
          simp only at hnd
          rw [e1, hw] at hnd
          simp only [List.cons_append, List.cons.injEq] at hw
          have : v ∈ u :: r := by rw [← hw.2]; simp
          rw [List.nodup_cons] at hnd
          exact hnd.1 this
      · cases e
        exact absurd (i2 u (by simp)) hnc
    obtain ⟨rfl, rfl⟩ := hx'
    have hmet : ∀ x ∈ d, Tok.ver x ∈ p := by
      intro x hx
      have hxu : x ≠ u := by rintro rfl; exact e4 hx
      have hx1 : x ∈ c1 := (e3 x).2 (.inl hx)
      have hi2 : Inv ([u], c1) := ⟨by simp, fun y hy => by simp at hy; subst hy; exact i2 y (by simp)⟩
      have hx2 := (run_inv j2 hi2).2.1 x hx1
      have hx3 := (h2 x).1 hx2
      obtain ⟨g, _⟩ := run_less (z := x) (c := c1.filter (· ≠ x)) j2 (by simp; exact hxu) (fun y => by
        simp only [List.mem_filter, decide_eq_true_eq]
        constructor
        · intro hh
          by_cases e : y = x
          · exact .inr e
          · exact .inl ⟨hh, by simpa using e⟩
        · rintro (hh | rfl)
          · exact hh.1
          · exact hx1) (by simp)
      simp only [List.mem_cons, reduceCtorEq, List.mem_append, false_or] at hx3
      rcases hx3 with hh | hh
      · exact hh
      · exact absurd hh g
    have e2' : run ([v], [v]) p = some ([v], d) := e2
    have hvd : v ∈ d := (run_inv e2' (Inv_one v)).2.1 v (by simp)
    exact ⟨goes_T0 e2' hmet hn.2.1, hmet v hvd⟩
end Go.Pev.Pl.Tok
end
section
/- What a forest is: rings apart from each other, in the order of their first tokens. -/
namespace Go.Pev.Pl
open Tok

def hd (l : List Int) : Int := l.headD 0
/-- no vertex in common -/
def Dis (n : Int) (a b : List Int) : Prop := ∀ t ∈ a, t < n → t ∉ b
structure FR (n : Int) (rings : List (List Int)) : Prop where
  sz : Sz n
  rg : ∀ l ∈ rings, RG n l
  up : rings.Pairwise (fun a b => hd a < hd b)
  dis : rings.Pairwise (Dis n)
  cov : ∀ v, In n v → ∃ l ∈ rings, v ∈ l

theorem Dis.symm {n : Int} {a b : List Int} (h : Dis n a b) : Dis n b a := fun t ht hn ha => h t ha hn ht

theorem okR_iff {n : Int} : ∀ {ls : List (List Int)} {seen : List Int} {last : Int}, okR n seen last ls ↔ (∀ l ∈ ls, RG n l ∧ last < hd l ∧ ∀ t ∈ l, t < n → t ∉ seen) ∧ ls.Pairwise (fun a b => hd a < hd b) ∧ ls.Pairwise (Dis n) := by
  intro ls
  induction ls with
  | nil => intro seen last; simp [okR]
  | cons l ls ih =>
    intro seen last
    rw [okR, ih, List.pairwise_cons, List.pairwise_cons]
    constructor
    · rintro ⟨h1, h2, h3, h4, h5, h6⟩
      refine ⟨fun k hk => ?_, ⟨fun k hk => (h4 k hk).2.1, h5⟩, ⟨fun k hk t ht htn htk => ?_, h6⟩⟩
      · rcases List.mem_cons.1 hk with rfl | hk
        · exact ⟨h1, h2, h3⟩
        · obtain ⟨q1, q2, q3⟩ := h4 k hk
          exact ⟨q1, Int.lt_trans h2 q2, fun t ht htn hts => q3 t ht htn (by simp [hts])⟩
      · exact (h4 k hk).2.2 t htk htn (by simp [ht, htn])
    · rintro ⟨h1, ⟨h2, h3⟩, ⟨h4, h5⟩⟩
      obtain ⟨q1, q2, q3⟩ := h1 l (by simp)
      refine ⟨q1, q2, q3, fun k hk => ?_, h3, h5⟩
      obtain ⟨p1, p2, p3⟩ := h1 k (by simp [hk])
      refine ⟨p1, h2 k hk, fun t ht htn hts => ?_⟩
      simp only [List.mem_append, List.mem_filter] at hts
      rcases hts with h | h
      · exact p3 t ht htn h
      · exact h4 k hk t h.1 htn ht

theorem RF_iff {n : Int} {rings : List (List Int)} : RF n rings ↔ FR n rings := by
  constructor
  · rintro ⟨h1, h2, h3⟩
    obtain ⟨q1, q2, q3⟩ := okR_iff.1 h2
    refine ⟨h1, fun l hl => (q1 l hl).1, q2, q3, fun v hv => ?_⟩
    obtain ⟨l, hl, h⟩ := List.mem_flatten.1 (h3 v hv.2.2.1 hv.2.2.2)
    exact ⟨l, hl, h⟩
  · rintro ⟨h1, h2, h3, h4, h5⟩
    refine ⟨h1, okR_iff.2 ⟨fun l hl => ⟨h2 l hl, ?_, by simp⟩, h3, h4⟩, fun v v1 v2 => ?_⟩
    · have := (RG_head (h2 l hl)).2.2.1
      show (-1 : Int) < l.headD 0
      omega
    · obtain ⟨l, hl, h⟩ := h5 v ⟨h1.1, h1.2, v1, v2⟩
      exact List.mem_flatten.2 ⟨l, hl, h⟩

/-- forests of the same rings, in their order, are the same -/
theorem sorted_same {ys zs : List (List Int)} (hz : zs.Pairwise (fun a b => hd a < hd b)) (hp : ys.Perm zs) (hy : ys.Pairwise (fun a b => ¬ hd b < hd a)) : ys = zs := by
  have hinj : ∀ a ∈ zs, ∀ b ∈ zs, hd a = hd b → a = b := by
    intro a ha b hb e
    refine Classical.byContradiction fun hne => ?_
    obtain ⟨i, hi, rfl⟩ := List.getElem_of_mem ha
    obtain ⟨j, hj, rfl⟩ := List.getElem_of_mem hb
    rw [List.pairwise_iff_getElem] at hz
    rcases Nat.lt_trichotomy i j with h | h | h
    · have := hz i j hi hj h; omega
    · subst h; exact hne rfl
    · have := hz j i hj hi h; omega
  refine List.Perm.eq_of_pairwise (le := fun a b => ¬ hd b < hd a) ?_ hy ?_ hp
  · intro a b ha hb h1 h2
    exact hinj a (hp.mem_iff.1 ha) b hb (by omega)
  · exact hz.imp fun h => by omega

/- the ring of a vertex -/
def plc (rings : List (List Int)) (v : Int) : Int := if rings.any (fun l => decide (v ∈ l)) then ((rings.findIdx (fun l => decide (v ∈ l)) : Nat) : Int) else -1

theorem place18_val (n : Int) (rings : List (List Int)) (v : Int) (hlen : rings.length < 1073741824) (hr : ∀ l ∈ rings, l.length < 9223372036854775808) : place18 ((n, (rings, ())), v, ()) = some (plc rings v, ()) := by
  rw [place18_eq, place18_d]
  have e := findL (step := place18_s0) (fun i => (v, n, rings, (i : Int), ())) rings (fun l => decide (v ∈ l)) (fun i => .inl ((i : Int), ())) (.inr (.inl ())) (by omega)
    (fun i l hi hx => by
      have hl := hr l (List.mem_of_getElem? hx)
      rw [place18_s0, dlen_l, ilt_nat, decide_eq_true hi]
      simp only [idx_some hx, place13_val l v (by omega)]
      rw [wrap_add1 (by omega), ile_eq]
      by_cases h : v ∈ l
      · obtain ⟨k, e, _⟩ := pos_in h
        rw [e, decide_eq_true (by omega), decide_eq_true h]; rfl
      · rw [pos_out h, decide_eq_false (by omega), decide_eq_false h]; rfl)
    (by rw [place18_s0, dlen_l, ilt_nat, decide_eq_false (by omega)])
  have e' : iterL place18_s0 many (v, n, rings, (0 : Int), ()) = _ := e
  simp only [e', plc]
  cases rings.any (fun l => decide (v ∈ l)) <;> rfl
theorem tplace_val (n : Int) (rings : List (List Int)) (v : Int) (hlen : rings.length < 1073741824) (hr : ∀ l ∈ rings, l.length < 9223372036854775808) : tplace ((n, (rings, ())), v, ()) = some (plc rings v, ()) := by
  rw [tplace_eq, tplace_d, idxFuncL_place_eq, idxFuncL_place_d]
  have e := findL (step := idxFuncL_place_s0) (fun i => (v, rings, dlen rings, (i : Int), ())) rings (fun l => decide (v ∈ l)) (fun i => .inl (v, (i : Int), ())) (.inr (.inl (v, ()))) (by omega)
    (fun i l hi hx => by
      have hl := hr l (List.mem_of_getElem? hx)
      rw [idxFuncL_place_s0, dlen_l, ilt_nat, decide_eq_true hi]
      simp only [idx_some hx, containsI_val l v (by omega)]
      rw [wrap_add1 (by omega)]
      by_cases h : v ∈ l
      · rw [decide_eq_true h]; rfl
      · rw [decide_eq_false h]; rfl)
    (by rw [idxFuncL_place_s0, dlen_l, ilt_nat, decide_eq_false (by omega)])
  have e' : iterL idxFuncL_place_s0 many (v, rings, dlen rings, (0 : Int), ()) = _ := e
  simp only [e', plc]
  cases rings.any (fun l => decide (v ∈ l)) <;> rfl

theorem plc_in {rings : List (List Int)} {v : Int} (h : ∃ l ∈ rings, v ∈ l) : ∃ k l, plc rings v = ((k : Nat) : Int) ∧ rings[k]? = some l ∧ v ∈ l ∧ k < rings.length := by
  obtain ⟨l, hl, hv⟩ := h
  have hany : rings.any (fun l => decide (v ∈ l)) = true := List.any_eq_true.2 ⟨l, hl, by simpa using hv⟩
  have hk : rings.findIdx (fun l => decide (v ∈ l)) < rings.length := List.findIdx_lt_length.2 ⟨l, hl, by simpa using hv⟩
  refine ⟨_, rings[rings.findIdx (fun l => decide (v ∈ l))], by rw [plc, if_pos hany], by rw [List.getElem?_eq_getElem hk], ?_, hk⟩
  have := List.findIdx_getElem (xs := rings) (p := fun l => decide (v ∈ l)) (w := hk)
  simpa using this
/-- a vertex is of one ring alone -/
theorem FR.uniq {n : Int} {rings : List (List Int)} (h : FR n rings) {i j : Nat} {a b : List Int} {v : Int} (hi : rings[i]? = some a) (hj : rings[j]? = some b) (hn : v < n) (ha : v ∈ a) (hb : v ∈ b) : i = j := by
  obtain ⟨hi1, rfl⟩ := List.getElem?_eq_some_iff.1 hi
  obtain ⟨hj1, rfl⟩ := List.getElem?_eq_some_iff.1 hj
  have hd := List.pairwise_iff_getElem.1 h.dis
  rcases Nat.lt_trichotomy i j with g | g | g
  · exact absurd hb (hd i j hi1 hj1 g v ha hn)
  · exact g
  · exact absurd ha (hd j i hj1 hi1 g v hb hn)
theorem FR.plc_eq {n : Int} {rings : List (List Int)} (h : FR n rings) {k : Nat} {a : List Int} {v : Int} (hk : rings[k]? = some a) (hn : v < n) (ha : v ∈ a) : plc rings v = (k : Int) := by
  obtain ⟨j, l, e, hj, hv, _⟩ := plc_in ⟨a, List.mem_of_getElem? hk, ha⟩
  rw [e, h.uniq hj hk hn hv ha]

/-- two rings, and the others -/
theorem erase_perm {α : Type} {l : List α} {i : Nat} {a : α} (h : l[i]? = some a) : l.Perm (a :: l.eraseIdx i) := by
  obtain ⟨hi, rfl⟩ := List.getElem?_eq_some_iff.1 h
  rw [List.eraseIdx_eq_take_drop_succ]
  conv => lhs; rw [← List.take_append_drop i l, List.drop_eq_getElem_cons hi]
  exact List.perm_middle
theorem erase2_perm {α : Type} {l : List α} {i j : Nat} {a b : α} (hij : i < j) (hi : l[i]? = some a) (hj : l[j]? = some b) : l.Perm (a :: b :: (l.eraseIdx j).eraseIdx i) := by
  have h1 := erase_perm hj
  have h2 : (l.eraseIdx j)[i]? = some a := by rw [List.getElem?_eraseIdx_of_lt hij, hi]
  exact h1.trans (((erase_perm h2).cons b).trans (List.Perm.swap a b _))

/- tokens of a ring that was grown -/
theorem TI_ok {n : Int} {xs : List Int} (h : TI n xs) (x : Int) (hx : x ∈ xs) : ∃ t, tokOf n x = some t ∧ okT n t ∧ encT n t = x := by
  obtain ⟨L, rfl, h2, _⟩ := h
  obtain ⟨t, ht, rfl⟩ := List.mem_map.1 hx
  exact ⟨t, tokOf_enc (h2 t ht), h2 t ht, rfl⟩
theorem okT_range {n : Int} {t : Tok} (h : okT n t) : 0 ≤ encT n t ∧ encT n t ≤ 4160 ∧ encT n t < n * (n + 1) := by
  cases t with
  | ver v =>
    obtain ⟨h1, h2, h3, h4⟩ := h
    have : n * 1 ≤ n * (n + 1) := Int.mul_le_mul_of_nonneg_left (by omega) (by omega)
    simp only [encT]; omega
  | arc u v =>
    obtain ⟨h1, h2, _⟩ := h
    obtain ⟨g1, g2, _⟩ := enc_arc h1 h2
    have hb := mul_bounds (u := n + 1 - 1) h1.1 h1.2.1 (by have := h1.1; omega) (by have := h1.2.1; omega)
    have e : n * (n + 1) = n * (n + 1 - 1) + n := by rw [show n + 1 - 1 = n by omega, Int.mul_add, Int.mul_one]
    have := h1.1
    have := h1.2.1
    simp only [encT]
    omega
theorem okT_sz {n : Int} {t : Tok} (h : okT n t) : Sz n := by
  cases t with
  | ver v => exact ⟨h.1, h.2.1⟩
  | arc u v => exact ⟨h.1.1, h.1.2.1⟩
theorem mem_enc {n : Int} {L : List Tok} (h2 : ∀ t ∈ L, okT n t) {t : Tok} (ht : okT n t) : encT n t ∈ L.map (encT n) ↔ t ∈ L := by
  rw [List.mem_map]
  constructor
  · rintro ⟨y, hy, e⟩
    rw [← enc_inj (h2 y hy) ht e]; exact hy
  · intro h; exact ⟨t, h, rfl⟩
theorem vers_nodup : ∀ {L : List Tok}, L.Nodup → (vers L).Nodup
  | [], _ => by simp [vers]
  | .ver v :: L, h => by
    rw [List.nodup_cons] at h
    rw [vers, List.nodup_cons]
    exact ⟨fun hm => h.1 (mem_vers.1 hm), vers_nodup h.2⟩
  | .arc _ _ :: L, h => by
    rw [List.nodup_cons] at h
    rw [vers]
    exact vers_nodup h.2
theorem TI_Rt {n : Int} {xs : List Int} (h : TI n xs) : Rt xs := by
  obtain ⟨L, rfl, h2, h3⟩ := h
  have hn := h3.nodup
  refine ⟨?_, fun x hx => ?_, ?_⟩
  · obtain ⟨v, r, hr⟩ := h3.cons_ver
    have hS : Sz n := okT_sz (h2 (.ver v) ((hr.mem _).2 (by simp)))
    have hl := h3.len
    have hv := nodup_sub_len (a := vers L) (b := (List.range n.toNat).map (fun (k : Nat) => (k : Int))) (vers_nodup hn) fun x hx => by
      have := h2 _ (mem_vers.1 hx)
      have h5 := this.2.2
      rw [List.mem_map]
      exact ⟨x.toNat, by rw [List.mem_range]; omega, by omega⟩
    have h6 := hS.2
    simp only [List.length_map, List.length_range] at hv ⊢
    omega
  · obtain ⟨t, ht, rfl⟩ := List.mem_map.1 hx
    have := okT_range (h2 t ht)
    omega
  · rw [List.Nodup, List.pairwise_map]
    exact hn.imp_of_mem fun ha hb hne e => hne (enc_inj (h2 _ ha) (h2 _ hb) e)

/-- the same ring of numbers -/
def IRot (a b : List Int) : Prop := ∃ x y, a = x ++ y ∧ b = y ++ x
theorem IRot.perm {a b : List Int} (h : IRot a b) : a.Perm b := by
  obtain ⟨x, y, rfl, rfl⟩ := h
  exact List.perm_append_comm
theorem IRot.symm {a b : List Int} (h : IRot a b) : IRot b a := by obtain ⟨x, y, h1, h2⟩ := h; exact ⟨y, x, h2, h1⟩
theorem TI_rot {n : Int} {a b : List Int} (h : TI n a) (r : IRot a b) : TI n b := by
  obtain ⟨L, h1, h2, h3⟩ := h
  obtain ⟨x, y, rfl, rfl⟩ := r
  obtain ⟨L1, L2, rfl, e1, e2⟩ := List.map_eq_append_iff.1 h1.symm
  refine ⟨L2 ++ L1, by rw [List.map_append, e1, e2], fun t ht => h2 t ?_, T.rot L1 L2 h3⟩
  simp only [List.mem_append] at ht ⊢
  exact ht.symm

theorem split_uniq {α : Type} {a b c d : List α} {t : α} (h : a ++ t :: b = c ++ t :: d) (h1 : t ∉ a) (h2 : t ∉ c) : a = c ∧ b = d := by
  induction a generalizing c with
  | nil =>
    cases c with
    | nil => simp at h; exact ⟨rfl, h⟩
    | cons x c => simp at h; exact absurd (by simp [h.1]) h2
  | cons y a ih =>
    cases c with
    | nil => simp at h; exact absurd (by simp [h.1]) h1
    | cons x c =>
      simp only [List.cons_append, List.cons.injEq] at h
      obtain ⟨e1, e2⟩ := ih h.2 (fun hm => h1 (List.mem_cons_of_mem _ hm)) (fun hm => h2 (List.mem_cons_of_mem _ hm))
      exact ⟨by rw [h.1, e1], e2⟩
theorem rotAt_eq {xs a b : List Int} {t : Int} (hn : xs.Nodup) (h : xs = a ++ t :: b) : rotAt xs t = t :: b ++ a := by
  obtain ⟨c, d, e1, e2, e3⟩ := rotAt_in (xs := xs) (t := t) (by rw [h]; simp)
  have ha : t ∉ a := by
    intro hm
    rw [h, List.nodup_append] at hn
    exact hn.2.2 t hm t (by simp) rfl
  obtain ⟨q1, q2⟩ := split_uniq (h.symm.trans e1) ha e2
  rw [e3, q1, q2]
theorem rotAt_irot {xs : List Int} {t : Int} (h : t ∈ xs) : IRot xs (rotAt xs t) := by
  obtain ⟨a, b, e1, _, e3⟩ := rotAt_in h
  exact ⟨a, t :: b, e1, by rw [e3]⟩
theorem rotAt_rot {xs ys : List Int} (r : IRot xs ys) (hn : xs.Nodup) {t : Int} (ht : t ∈ xs) : rotAt xs t = rotAt ys t := by
  have hny : ys.Nodup := r.perm.nodup_iff.1 hn
  obtain ⟨x, y, rfl, rfl⟩ := r
  rcases List.mem_append.1 ht with h | h
  · obtain ⟨p, q, rfl⟩ := List.append_of_mem h
    rw [rotAt_eq hn (a := p) (b := q ++ y) (by simp), rotAt_eq hny (a := y ++ p) (b := q) (by simp)]
    simp
  · obtain ⟨p, q, rfl⟩ := List.append_of_mem h
    rw [rotAt_eq hn (a := x ++ p) (b := q) (by simp), rotAt_eq hny (a := p) (b := q ++ x) (by simp)]
    simp
theorem minL_perm {xs ys : List Int} (h : xs.Perm ys) (hne : xs ≠ []) : minL ys = minL xs := by
  obtain ⟨h1, h2⟩ := minL_spec hne
  exact minL_eq (h.mem_iff.1 h1) fun x hx => h2 x (h.mem_iff.2 hx)
theorem plain_rot {xs ys : List Int} (r : IRot xs ys) (hr : Rt xs) (hry : Rt ys) (hne : xs ≠ []) : plain ys = plain xs := by
  have hne2 : ys ≠ [] := by
    intro e
    have := r.perm.length_eq
    rw [e] at this
    exact hne (List.length_eq_zero_iff.1 this)
  rw [plain, plain, if_pos ⟨hry, hne2⟩, if_pos ⟨hr, hne⟩, minL_perm r.perm hne, rotAt_rot r hr.2.2 (minL_spec hne).1]
theorem plain_irot {xs : List Int} (hr : Rt xs) (hne : xs ≠ []) : IRot xs (plain xs) := by
  rw [plain, if_pos ⟨hr, hne⟩]
  exact rotAt_irot (minL_spec hne).1
theorem TI_ne {n : Int} {xs : List Int} (h : TI n xs) : xs ≠ [] := by rintro rfl; exact TI_nil n h
theorem RG_plain {n : Int} {xs : List Int} (h : TI n xs) : RG n (plain xs) ∧ IRot xs (plain xs) := by
  have hr := TI_Rt h
  have hne := TI_ne h
  have h1 := plain_irot hr hne
  have h2 := TI_rot h h1
  refine ⟨⟨TI_Rt h2, TI_ne h2, ?_, h2⟩, h1⟩
  rw [minL_perm h1.perm hne]
  obtain ⟨a, b, _, e⟩ := plain_nonempty hr hne
  rw [e]; rfl
theorem RG.self {n : Int} {xs : List Int} (h : RG n xs) : plain xs = xs := (plain_self h.1 h.2.1).2 h.2.2.1

/-- a ring from a token on -/
theorem TI_rotAt {n : Int} {xs : List Int} (h : TI n xs) {t : Tok} (ht : okT n t) (hx : encT n t ∈ xs) : ∃ a, rotAt xs (encT n t) = (t :: a).map (encT n) ∧ T (t :: a) ∧ (∀ y ∈ t :: a, okT n y) := by
  have h1 := TI_rot h (rotAt_irot hx)
  obtain ⟨a, b, e1, e2, e3⟩ := rotAt_in hx
  obtain ⟨L, q1, q2, q3⟩ := h1
  rw [e3, List.cons_append] at q1
  cases L with
  | nil => cases q1
  | cons t' L =>
    simp only [List.map_cons, List.cons.injEq] at q1
    have := enc_inj ht (q2 t' (by simp)) q1.1
    subst this
    exact ⟨L, by rw [e3, List.cons_append, List.map_cons, q1.2], q3, q2⟩
end Go.Pev.Pl
end
section
/- The sort by a compare function. -/
namespace Go.Pev.Pl.SL
open Go.Sort
/-- lists that aren't empty -/
def ok (l : List Int) : Prop := l ≠ []
def okz : List Int := [0]
theorem okz_ok : ok okz := by simp [ok, okz]
def lt (x y : List Int) : Bool := ltInt (x.headD 0) (y.headD 0)
theorem swo : SWO lt := ⟨fun x => swo_ltInt.irrefl _, fun x y z => swo_ltInt.trans _ _ _, fun x y z => swo_ltInt.ntrans _ _ _⟩
theorem cmp_ok {x y : List Int} (hx : ok x) (hy : ok y) : ∃ c, with1 (x, y, ()) = some (c, ()) ∧ ilt c (0 : Int) = lt x y := by
  cases x with
  | nil => exact absurd rfl hx
  | cons a x =>
    cases y with
    | nil => exact absurd rfl hy
    | cons b y =>
      rw [with1_eq, with1_d]
      have i1 : idx (a :: x) (0 : Int) = some a := by rw [idx_eq]; rfl
      have i2 : idx (b :: y) (0 : Int) = some b := by rw [idx_eq]; rfl
      simp only [i1, i2, compareI_eq, compareI_d, nanI_eq, nanI_d]
      simp only [ieq_eq, ilt_eq, lt, List.headD_cons, ltInt]
      by_cases h : a < b
      · simp [h]
      · by_cases h2 : b < a
        · simp [h, h2]
        · simp [h, h2]

abbrev EL := {x : List Int // ok x}
instance : Inhabited EL := ⟨⟨okz, okz_ok⟩⟩
def rep (d : Array EL) : List (List Int) := d.toList.map Subtype.val
theorem idx_at {d : Array EL} {n : Nat} (h : n < d.size) : idx (rep d) (n : Int) = some (d[n]!).val := by
  rw [idx_eq, idxR, if_neg (by omega)]
  simp [rep, h]
theorem dget_at {d : Array EL} {n : Nat} {z : List Int} (h : n < d.size) : dget (rep d) (dnat (n : Int)) z = (d[n]!).val := by
  simp [dget, dnat, rep, h]
theorem dset_at {d : Array EL} {n : Nat} {x : EL} : dset (rep d) (dnat (n : Int)) x.val = rep (d.setIfInBounds n x) := by
  simp [dset, dnat, rep, List.map_set]
theorem dlen_at {d : Array EL} : dlen (rep d) = (d.size : Int) := by simp [dlen, rep]
def ltX (x y : EL) : Bool := lt x.val y.val
theorem swoX : SWO ltX := ⟨fun x => swo.irrefl x.val, fun x y z => swo.trans x.val y.val z.val, fun x y z => swo.ntrans x.val y.val z.val⟩
noncomputable def cmpX (x y : EL) : Int := match with1 (x.val, y.val, ()) with
  | some (c, _) => c
  | none => 0
theorem less_val (x y : EL) : with1 (x.val, y.val, ()) = some (cmpX x y, ()) := by
  obtain ⟨c, e, _⟩ := cmp_ok x.property y.property
  rw [cmpX, e]
theorem less_lt (x y : EL) : ilt (cmpX x y) (0 : Int) = ltX x y := by
  obtain ⟨c, e, h⟩ := cmp_ok x.property y.property
  rw [cmpX, e]
  exact h
theorem insL_in (a b i : Nat) : ∀ (j : Nat) (d : Array EL) (n : Nat), j < d.size → d.size < 4611686018427387904 → j < n →
    iterO insL_s1 n ((rep d), (a : Int), (b : Int), (i : Int), (j : Int), ()) = some (.inl ((rep (insInner ltX a j d)), (a : Int), (b : Int), (i : Int), ())) := by
  intro j
  induction j with
  | zero =>
    intro d n hj hs hn
    obtain ⟨n, rfl⟩ : ∃ k, n = k + 1 := ⟨n - 1, by omega⟩
    have h0 : ilt (a : Int) ((0 : Nat) : Int) = false := by rw [ilt_nat]; simp
    simp only [iterO, insL_s1, h0, insInner]
  | succ j ih =>
    intro d n hj hs hn
    obtain ⟨n, rfl⟩ : ∃ k, n = k + 1 := ⟨n - 1, by omega⟩
    have e1 : IntKind.wrap .i64 (((j + 1 : Nat) : Int) - 1) = (j : Int) := by rw [wrap_in (by omega)]; omega
    have hj' : j < d.size := by omega
    simp only [iterO, insL_s1, ilt_nat, e1, idx_at hj, idx_at hj', dget_at hj, dget_at hj', less_val, less_lt, insInner, gt_iff_lt]
    by_cases h1 : a < j + 1
    · cases h2 : ltX d[j + 1]! d[j]!
      · simp only [h1, decide_true, h2, Bool.and_false, Bool.false_eq_true, if_false]
      · simp only [h1, decide_true, h2, Bool.and_true, if_true, dset_at]
        rw [idx_at (by simpa using hj')]
        simp only [swp_fold]
        exact ih (swp d (j + 1) j) n (by rw [size_swp]; omega) (by rw [size_swp]; omega) (by omega)
    · simp only [h1, decide_false, Bool.false_and, Bool.false_eq_true, if_false]

theorem size_insInner (lt : EL → EL → Bool) (a j : Nat) (d : Array EL) : (insInner lt a j d).size = d.size := by
  induction j generalizing d with
  | zero => rfl
  | succ j ih =>
    rw [insInner]
    split
    · rw [ih, size_swp]
    · rfl

theorem insL_out (a b : Nat) : ∀ (k i : Nat) (d : Array EL) (n : Nat), b - i = k → b ≤ d.size → d.size < 4611686018427387904 → d.size < many → k < n →
    iterO insL_s0 n ((rep d), (a : Int), (b : Int), (i : Int), ()) = some (.inl ((rep (insOuter ltX a b i d)), ())) := by
  intro k
  induction k with
  | zero =>
    intro i d n hk hb hs hm hn
    obtain ⟨n, rfl⟩ : ∃ k, n = k + 1 := ⟨n - 1, by omega⟩
    have h0 : ¬ i < b := by omega
    rw [insOuter]
    simp only [iterO, insL_s0, ilt_nat, h0, decide_false, if_false]
  | succ k ih =>
    intro i d n hk hb hs hm hn
    obtain ⟨n, rfl⟩ : ∃ k, n = k + 1 := ⟨n - 1, by omega⟩
    have h0 : i < b := by omega
    have e1 : IntKind.wrap .i64 ((i : Int) + 1) = ((i + 1 : Nat) : Int) := by rw [wrap_in (by omega)]; omega
    rw [insOuter]
    simp only [iterO, insL_s0, ilt_nat, h0, decide_true, if_true, iterL_eq]
    rw [insL_in a b i i d many (by omega) hs (by omega)]
    simp only [e1]
    exact ih (i + 1) _ n (by omega) (by rw [size_insInner]; omega) (by rw [size_insInner]; omega) (by rw [size_insInner]; omega) (by omega)

theorem insL_val (d : Array EL) (a b : Nat) (hab : a ≤ b) (hb : b ≤ d.size) (hs : d.size < 4294967296) : insL ((rep d), (a : Int), (b : Int), ()) = some ((rep (insertionSort ltX d a b)), ()) := by
  have hm : d.size < many := by simp only [many]; omega
  have e1 : IntKind.wrap .i64 ((a : Int) + 1) = ((a + 1 : Nat) : Int) := by rw [wrap_in (by omega)]; omega
  rw [insL_eq, insL_d]
  simp only [e1, iterL_eq]
  rw [insL_out a b (b - (a + 1)) (a + 1) d many rfl hb (by omega) hm (by omega)]
  rfl
end Go.Pev.Pl.SL
end
section
namespace Go.Pev.Pl.SL
open Go.Sort
theorem siftL_loop (hi first : Nat) : ∀ (k root : Nat) (d : Array EL) (n : Nat), hi - root = k → root ≤ hi → first + hi ≤ d.size → d.size < 4294967296 → (hi = 0 ∨ root < hi) → k < n →
    iterO siftL_s0 n ((rep d), (hi : Int), (first : Int), (root : Int), ()) = some (.inl ((rep (siftDown ltX hi first root d)), ())) ∨
    iterO siftL_s0 n ((rep d), (hi : Int), (first : Int), (root : Int), ()) = some (.inr (.inl ((rep (siftDown ltX hi first root d)), ()))) := by
  intro k
  induction k using Nat.strongRecOn with
  | _ k ih =>
  intro root d n hk hr hf hs hz hn
  obtain ⟨n, rfl⟩ : ∃ k, n = k + 1 := ⟨n - 1, by omega⟩
  rw [siftDown]
  simp (disch := omega) only [iterO, siftL_s0, wrap_2mul, wrap_add1, wrap_add, ile_nat, ilt_nat]
  by_cases h1 : hi ≤ 2 * root + 1
  · simp only [h1, decide_true, ge_iff_le, dite_true, true_or]
  · have i0 : first + root < d.size := by omega
    have i1 : first + (2 * root + 1) < d.size := by omega
    simp only [h1, decide_false, ge_iff_le, if_false, dite_false]
    simp (disch := omega) only [idx_at, dget_at, less_val, less_lt]
    by_cases h2 : 2 * root + 1 + 1 < hi
    · have i2 : first + (2 * root + 2) < d.size := by omega
      have i3 : 2 * root + 1 + 1 = 2 * root + 2 := by omega
      have i4 : first + (2 * root + 1) + 1 = first + (2 * root + 2) := by omega
      have h3 : 2 * root + 2 < hi := by omega
      simp only [i3, i4, h3, decide_true]
      simp (disch := omega) only [idx_at, dget_at, less_val, less_lt, dset_at]
      cases h4 : ltX d[first + (2 * root + 1)]! d[first + (2 * root + 2)]!
      · simp only [Bool.and_false, Bool.false_eq_true, if_false]
        cases h5 : ltX d[first + root]! d[first + (2 * root + 1)]!
        · simp
        · simp only [Bool.not_true, Bool.false_eq_true, if_false]
          rw [idx_at (by simpa using i1)]
          simp only [swp_fold]
          exact ih (hi - (2 * root + 1)) (by omega) (2 * root + 1) _ n rfl (by omega) (by rw [size_swp]; omega) (by rw [size_swp]; omega) (by omega) (by omega)
      · simp only [Bool.and_true, if_true]
        cases h5 : ltX d[first + root]! d[first + (2 * root + 2)]!
        · simp
        · simp only [Bool.not_true, Bool.false_eq_true, if_false, dite_true]
          rw [idx_at (by simpa using i2)]
          simp only [swp_fold]
          exact ih (hi - (2 * root + 2)) (by omega) (2 * root + 2) _ n rfl (by omega) (by rw [size_swp]; omega) (by rw [size_swp]; omega) (by omega) (by omega)
    · simp only [h2, decide_false, Bool.false_and, Bool.false_eq_true, if_false, dset_at]
      cases h5 : ltX d[first + root]! d[first + (2 * root + 1)]!
      · simp
      · simp only [Bool.not_true, Bool.false_eq_true, if_false]
        rw [idx_at (by simpa using i1)]
        simp only [swp_fold]
        exact ih (hi - (2 * root + 1)) (by omega) (2 * root + 1) _ n rfl (by omega) (by rw [size_swp]; omega) (by rw [size_swp]; omega) (by omega) (by omega)

theorem siftL_val (d : Array EL) (root hi first : Nat) (hf : first + hi ≤ d.size) (hs : d.size < 4294967296) (hz : hi = 0 ∧ root = 0 ∨ root < hi) : siftL ((rep d), (root : Int), (hi : Int), (first : Int), ()) = some ((rep (siftDown ltX hi first root d)), ()) := by
  have hm : d.size < many := by simp only [many]; omega
  rw [siftL_eq, siftL_d]
  simp only [iterL_eq]
  rcases siftL_loop hi first (hi - root) root d many rfl (by omega) hf hs (by omega) (by omega) with h | h <;> rw [h]

theorem size_siftDown (lt : EL → EL → Bool) (hi first : Nat) : ∀ (k root : Nat) (d : Array EL), hi - root = k → (siftDown lt hi first root d).size = d.size := by
  intro k
  induction k using Nat.strongRecOn with
  | _ k ih =>
  intro root d hk
  rw [siftDown]
  split
  · rfl
  · split
    · split
      · rfl
      · split
        · rw [ih (hi - (2 * root + 2)) (by omega) _ _ rfl, size_swp]
        · rfl
    · split
      · rfl
      · rw [ih (hi - (2 * root + 1)) (by omega) _ _ rfl, size_swp]

theorem heapL_build (hi first : Nat) : ∀ (k : Nat) (d : Array EL) (n : Nat), (hi = 0 ∧ k ≤ 1 ∨ k ≤ hi) → first + hi ≤ d.size → d.size < 4294967296 → k < n →
    iterO heapL_s0 n ((rep d), (first : Int), (0 : Int), (hi : Int), (k : Int) - 1, ()) = some (.inl ((rep (heapBuild ltX hi first k d)), (first : Int), (0 : Int), (hi : Int), ())) := by
  intro k
  induction k with
  | zero =>
    intro d n hk hf hs hn
    obtain ⟨n, rfl⟩ : ∃ k, n = k + 1 := ⟨n - 1, by omega⟩
    rw [iterO, heapL_s0, ile_eq, decide_eq_false (by omega)]
    rfl
  | succ k ih =>
    intro d n hk hf hs hn
    obtain ⟨n, rfl⟩ : ∃ k, n = k + 1 := ⟨n - 1, by omega⟩
    have e0 : ((k + 1 : Nat) : Int) - 1 = (k : Int) := by omega
    rw [iterO, heapL_s0, e0, ile_eq, decide_eq_true (by omega)]
    simp only [siftL_val d k hi first hf hs (by omega)]
    rw [wrap_in (by omega)]
    exact ih _ n (by omega) (by rw [size_siftDown _ _ _ _ _ _ rfl]; omega) (by rw [size_siftDown _ _ _ _ _ _ rfl]; omega) (by omega)

theorem size_heapBuild (lt : EL → EL → Bool) (hi first : Nat) : ∀ (k : Nat) (d : Array EL), (heapBuild lt hi first k d).size = d.size := by
  intro k
  induction k with
  | zero => intro d; rfl
  | succ k ih => intro d; rw [heapBuild, ih, size_siftDown _ _ _ _ _ _ rfl]

theorem heapL_pop (first : Nat) : ∀ (k : Nat) (d : Array EL) (n : Nat), first + k ≤ d.size → d.size < 4294967296 → k < n →
    iterO heapL_s1 n ((rep d), (first : Int), (0 : Int), (k : Int) - 1, ()) = some (.inl ((rep (heapPop ltX first k d)), ())) := by
  intro k
  induction k with
  | zero =>
    intro d n hf hs hn
    obtain ⟨n, rfl⟩ : ∃ k, n = k + 1 := ⟨n - 1, by omega⟩
    rw [iterO, heapL_s1, ile_eq, decide_eq_false (by omega)]
    rfl
  | succ k ih =>
    intro d n hf hs hn
    obtain ⟨n, rfl⟩ : ∃ k, n = k + 1 := ⟨n - 1, by omega⟩
    have e0 : ((k + 1 : Nat) : Int) - 1 = (k : Int) := by omega
    have i0 : first < d.size := by omega
    have i1 : first + k < d.size := by omega
    rw [iterO, heapL_s1, e0, ile_eq, decide_eq_true (by omega)]
    simp (disch := omega) only [wrap_add, idx_at, dget_at, dset_at]
    rw [idx_at (by simpa using i1)]
    simp only [swp_fold]
    have := siftL_val (swp d first (first + k)) 0 k first (by rw [size_swp]; omega) (by rw [size_swp]; omega) (by omega)
    simp only [Int.natCast_zero] at this
    simp only [this]
    rw [wrap_in (by omega)]
    exact ih _ n (by rw [size_siftDown _ _ _ _ _ _ rfl, size_swp]; omega) (by rw [size_siftDown _ _ _ _ _ _ rfl, size_swp]; omega) (by omega)

theorem heapL_val (d : Array EL) (a b : Nat) (hab : a < b) (hb : b ≤ d.size) (hs : d.size < 4294967296) : heapL ((rep d), (a : Int), (b : Int), ()) = some ((rep (heapSort ltX d a b)), ()) := by
  have hm : 4294967296 < many := by simp only [many]; omega
  rw [heapL_eq, heapL_d]
  simp (disch := omega) only [wrap_sub, wrap_sub1, quo_2, iterL_eq]
  have e : (((b - a - 1) / 2 : Nat) : Int) = (((b - a - 1) / 2 + 1 : Nat) : Int) - 1 := by omega
  rw [e, heapL_build (b - a) a _ d many (by omega) (by omega) hs (by omega)]
  have e2 : (((b - a - 1 : Nat)) : Int) = ((b - a : Nat) : Int) - 1 := by omega
  simp (disch := omega) only [wrap_sub1, e2]
  rw [heapL_pop a (b - a) _ many (by rw [size_heapBuild]; omega) (by rw [size_heapBuild]; omega) (by omega)]
  rfl
end Go.Pev.Pl.SL
end
section
namespace Go.Pev.Pl.SL
open Go.Sort
theorem revL_loop : ∀ (k i j : Nat) (d : Array EL) (n : Nat), j - i = k → (j < d.size) → d.size < 4294967296 → k < n →
    iterO revL_s0 n ((rep d), (i : Int), (j : Int), ()) = some (.inl ((rep (reverseLoop i j d)), ())) := by
  intro k
  induction k using Nat.strongRecOn with
  | _ k ih =>
  intro i j d n hk hj hs hn
  obtain ⟨n, rfl⟩ : ∃ k, n = k + 1 := ⟨n - 1, by omega⟩
  rw [reverseLoop, iterO, revL_s0]
  simp only [ilt_nat]
  by_cases h : i < j
  · have hi : i < d.size := by omega
    simp only [h, decide_true, if_true, idx_at hj, idx_at hi, dget_at hi, dget_at hj, dset_at]
    rw [idx_at (by simpa using hj)]
    simp (disch := omega) only [swp_fold, wrap_add1, wrap_sub1]
    exact ih (j - 1 - (i + 1)) (by omega) (i + 1) (j - 1) _ n rfl (by rw [size_swp]; omega) (by rw [size_swp]; omega) (by omega)
  · simp only [h, decide_false, if_false]

theorem revL_val (d : Array EL) (a b : Nat) (hab : a < b) (hb : b ≤ d.size) (hs : d.size < 4294967296) : revL ((rep d), (a : Int), (b : Int), ()) = some ((rep (reverseRange d a b)), ()) := by
  have hm : 4294967296 < many := by simp only [many]; omega
  rw [revL_eq, revL_d]
  simp (disch := omega) only [wrap_sub1, iterL_eq]
  rw [revL_loop (b - 1 - a) a (b - 1) d many rfl (by omega) hs (by omega)]
  rfl

theorem swapL {d : Array EL} {i j : Nat} (hi : i < d.size) (hj : j < d.size) : idx (dset (rep d) (dnat (i : Int)) (dget (rep d) (dnat (j : Int)) ([] : List Int))) (j : Int) = some ((d.setIfInBounds i d[j]!)[j]!).val ∧
    dset (dset (rep d) (dnat (i : Int)) (dget (rep d) (dnat (j : Int)) ([] : List Int))) (dnat (j : Int)) (dget (rep d) (dnat (i : Int)) ([] : List Int)) = (rep (swp d i j)) := by
  rw [dget_at hi, dget_at hj, dset_at, dset_at]
  exact ⟨idx_at (by simpa using hj), rfl⟩

/- the scans -/
theorem scanUpL (step : List (List Int) × Int × Int × Int × Unit → Option ((List (List Int) × Int × Int × Int × Unit) ⊕ (List (List Int) × Int × Int × Int × Unit) ⊕ Unit)) (p : EL → Bool) (d : Array EL) (a j : Nat) (hs : d.size < 4294967296) (hj : j < d.size)
    (h : ∀ i : Nat, i ≤ d.size → step ((rep d), (a : Int), (i : Int), (j : Int), ()) = if i ≤ j ∧ p d[i]! then some (.inl ((rep d), (a : Int), ((i + 1 : Nat) : Int), (j : Int), ())) else some (.inr (.inl ((rep d), (a : Int), (i : Int), (j : Int), ())))) :
    ∀ (k i n : Nat), j + 1 - i = k → i ≤ d.size → k < n → iterO step n ((rep d), (a : Int), (i : Int), (j : Int), ()) = some (.inl ((rep d), (a : Int), ((scanUp p d j i : Nat) : Int), (j : Int), ())) := by
  intro k
  induction k using Nat.strongRecOn with
  | _ k ih =>
  intro i n hk hi hn
  obtain ⟨n, rfl⟩ : ∃ k, n = k + 1 := ⟨n - 1, by omega⟩
  rw [scanUp, iterO, h i hi]
  by_cases h1 : i ≤ j ∧ p d[i]! = true
  · rw [if_pos h1, if_pos (by simpa using h1)]
    exact ih (j + 1 - (i + 1)) (by omega) (i + 1) n rfl (by omega) (by omega)
  · rw [if_neg h1, if_neg (by simpa using h1)]

theorem scanDownL (step : List (List Int) × Int × Int × Int × Unit → Option ((List (List Int) × Int × Int × Int × Unit) ⊕ (List (List Int) × Int × Int × Int × Unit) ⊕ Unit)) (p : EL → Bool) (d : Array EL) (a i : Nat) (hi : 1 ≤ i)
    (h : ∀ j : Nat, j < d.size → step ((rep d), (a : Int), (i : Int), (j : Int), ()) = if i ≤ j ∧ p d[j]! then some (.inl ((rep d), (a : Int), (i : Int), ((j - 1 : Nat) : Int), ())) else some (.inr (.inl ((rep d), (a : Int), (i : Int), (j : Int), ())))) :
    ∀ (j n : Nat), j < d.size → j < n → iterO step n ((rep d), (a : Int), (i : Int), (j : Int), ()) = some (.inl ((rep d), (a : Int), (i : Int), ((scanDown p d i j : Nat) : Int), ())) := by
  intro j
  induction j with
  | zero =>
    intro n hj hn
    obtain ⟨n, rfl⟩ : ∃ k, n = k + 1 := ⟨n - 1, by omega⟩
    rw [iterO, h 0 hj, if_neg (by omega)]
    rfl
  | succ j ih =>
    intro n hj hn
    obtain ⟨n, rfl⟩ : ∃ k, n = k + 1 := ⟨n - 1, by omega⟩
    rw [scanDown, iterO, h (j + 1) hj]
    by_cases h1 : i ≤ j + 1 ∧ p d[j + 1]! = true
    · rw [if_pos h1, if_pos (by simpa using h1)]
      exact ih n (by omega) (by omega)
    · rw [if_neg h1, if_neg (by simpa using h1)]

section
variable (d : Array EL) (a i j : Nat) (hs : d.size < 4294967296) (ha : a < d.size) (hj : j < d.size)
include hs ha hj
theorem partL_s0_at (hi : i ≤ d.size) : partL_s0 ((rep d), (a : Int), (i : Int), (j : Int), ()) = if i ≤ j ∧ (fun x => ltX x d[a]!) d[i]! = true then some (.inl ((rep d), (a : Int), ((i + 1 : Nat) : Int), (j : Int), ())) else some (.inr (.inl ((rep d), (a : Int), (i : Int), (j : Int), ()))) := by
  rw [partL_s0]
  simp only [ile_nat]
  by_cases h : i ≤ j
  · have hi' : i < d.size := by omega
    simp (disch := omega) only [h, decide_true, idx_at, dget_at, less_val, less_lt, wrap_add1, true_and]
    cases ltX d[i]! d[a]! <;> simp
  · simp only [h, decide_false, false_and, if_false]
theorem partL_s3_at (hi : i ≤ d.size) : partL_s3 ((rep d), (a : Int), (i : Int), (j : Int), ()) = if i ≤ j ∧ (fun x => ltX x d[a]!) d[i]! = true then some (.inl ((rep d), (a : Int), ((i + 1 : Nat) : Int), (j : Int), ())) else some (.inr (.inl ((rep d), (a : Int), (i : Int), (j : Int), ()))) := by
  rw [partL_s3]
  simp only [ile_nat]
  by_cases h : i ≤ j
  · have hi' : i < d.size := by omega
    simp (disch := omega) only [h, decide_true, idx_at, dget_at, less_val, less_lt, wrap_add1, true_and]
    cases ltX d[i]! d[a]! <;> simp
  · simp only [h, decide_false, false_and, if_false]
theorem partL_s1_at (hi : 1 ≤ i) : partL_s1 ((rep d), (a : Int), (i : Int), (j : Int), ()) = if i ≤ j ∧ (fun x => !ltX x d[a]!) d[j]! = true then some (.inl ((rep d), (a : Int), (i : Int), ((j - 1 : Nat) : Int), ())) else some (.inr (.inl ((rep d), (a : Int), (i : Int), (j : Int), ()))) := by
  rw [partL_s1]
  simp only [ile_nat]
  by_cases h : i ≤ j
  · simp (disch := omega) only [h, decide_true, idx_at, dget_at, less_val, less_lt, wrap_sub1, true_and]
    cases ltX d[j]! d[a]! <;> simp
  · simp only [h, decide_false, false_and, if_false]
theorem partL_s4_at (hi : 1 ≤ i) : partL_s4 ((rep d), (a : Int), (i : Int), (j : Int), ()) = if i ≤ j ∧ (fun x => !ltX x d[a]!) d[j]! = true then some (.inl ((rep d), (a : Int), (i : Int), ((j - 1 : Nat) : Int), ())) else some (.inr (.inl ((rep d), (a : Int), (i : Int), (j : Int), ()))) := by
  rw [partL_s4]
  simp only [ile_nat]
  by_cases h : i ≤ j
  · simp (disch := omega) only [h, decide_true, idx_at, dget_at, less_val, less_lt, wrap_sub1, true_and]
    cases ltX d[j]! d[a]! <;> simp
  · simp only [h, decide_false, false_and, if_false]
theorem partEqL_s1_at (hi : i ≤ d.size) : partEqL_s1 ((rep d), (a : Int), (i : Int), (j : Int), ()) = if i ≤ j ∧ (fun x => !ltX d[a]! x) d[i]! = true then some (.inl ((rep d), (a : Int), ((i + 1 : Nat) : Int), (j : Int), ())) else some (.inr (.inl ((rep d), (a : Int), (i : Int), (j : Int), ()))) := by
  rw [partEqL_s1]
  simp only [ile_nat]
  by_cases h : i ≤ j
  · have hi' : i < d.size := by omega
    simp (disch := omega) only [h, decide_true, idx_at, dget_at, less_val, less_lt, wrap_add1, true_and]
    cases ltX d[a]! d[i]! <;> simp
  · simp only [h, decide_false, false_and, if_false]
theorem partEqL_s2_at (hi : 1 ≤ i) : partEqL_s2 ((rep d), (a : Int), (i : Int), (j : Int), ()) = if i ≤ j ∧ (fun x => ltX d[a]! x) d[j]! = true then some (.inl ((rep d), (a : Int), (i : Int), ((j - 1 : Nat) : Int), ())) else some (.inr (.inl ((rep d), (a : Int), (i : Int), (j : Int), ()))) := by
  rw [partEqL_s2]
  simp only [ile_nat]
  by_cases h : i ≤ j
  · simp (disch := omega) only [h, decide_true, idx_at, dget_at, less_val, less_lt, wrap_sub1, true_and]
    cases ltX d[a]! d[j]! <;> simp
  · simp only [h, decide_false, false_and, if_false]
end

theorem scanUp_size (p : EL → Bool) (d : Array EL) (j i : Nat) (hj : j < d.size) (hi : i ≤ d.size) : scanUp p d j i ≤ d.size := by
  suffices h : ∀ (k i : Nat), j + 1 - i = k → i ≤ d.size → scanUp p d j i ≤ d.size from h _ i rfl hi
  intro k
  induction k using Nat.strongRecOn with
  | _ k ih =>
  intro i hk hi
  rw [scanUp]
  split
  · rename_i h
    have : i ≤ j := by simp at h; exact h.1
    exact ih (j + 1 - (i + 1)) (by omega) (i + 1) rfl (by omega)
  · exact hi

theorem partL_loop (a : Nat) : ∀ (k i j : Nat) (d : Array EL) (n : Nat), j + 1 - i = k → a < d.size → 1 ≤ i → i ≤ d.size → j < d.size → d.size < 4294967296 → k < n →
    iterO partL_s2 n ((rep d), (a : Int), (i : Int), (j : Int), ()) = some (.inl ((rep (partLoop ltX a i j d).2), (a : Int), (((partLoop ltX a i j d).1 : Nat) : Int), ())) ∧ (partLoop ltX a i j d).1 ≤ j ∧ (partLoop ltX a i j d).2.size = d.size := by
  intro k
  induction k using Nat.strongRecOn with
  | _ k ih =>
  intro i j d n hk ha hi hi' hj hs hn
  have hm : 4294967296 < many := by simp only [many]; omega
  obtain ⟨n, rfl⟩ : ∃ k, n = k + 1 := ⟨n - 1, by omega⟩
  rw [partLoop_eq, iterO, partL_s2]
  have u1 := scanUp_ge (fun x => ltX x d[a]!) d j i
  have u2 := scanUp_size (fun x => ltX x d[a]!) d j i hj hi'
  rw [iterL_eq, scanUpL _ (fun x => ltX x d[a]!) d a j hs hj (fun i h => partL_s3_at d a i j hs ha hj h) _ i many rfl hi' (by omega)]
  generalize scanUp (fun x => ltX x d[a]!) d j i = i2 at *
  have v1 := scanDown_le (fun x => !ltX x d[a]!) d i2 j
  simp only [iterL_eq]
  rw [scanDownL _ (fun x => !ltX x d[a]!) d a i2 (by omega) (fun j h => partL_s4_at d a i2 j hs ha h (by omega)) j many hj (by omega)]
  generalize scanDown (fun x => !ltX x d[a]!) d i2 j = j2 at *
  simp only [ilt_nat]
  by_cases h : j2 < i2
  · simp only [h, decide_true, gt_iff_lt, if_true]
    exact ⟨trivial, v1, trivial⟩
  · have hi2 : i2 < d.size := by omega
    have hj2 : j2 < d.size := by omega
    simp only [h, decide_false, gt_iff_lt, if_false, idx_at hi2, idx_at hj2, (swapL hi2 hj2).1, (swapL hi2 hj2).2]
    simp (disch := omega) only [wrap_add1, wrap_sub1]
    obtain ⟨q1, q2, q3⟩ := ih (j2 - 1 + 1 - (i2 + 1)) (by omega) (i2 + 1) (j2 - 1) (swp d i2 j2) n rfl (by rw [size_swp]; omega) (by omega) (by rw [size_swp]; omega) (by rw [size_swp]; omega) (by rw [size_swp]; omega) (by omega)
    exact ⟨q1, by omega, by rw [q3, size_swp]⟩

theorem partL_val (d : Array EL) (a b p : Nat) (ha : a ≤ p) (hp : p < b) (hb : b ≤ d.size) (hs : d.size < 4294967296) :
    partL ((rep d), (a : Int), (b : Int), (p : Int), ()) = some ((rep (partition ltX d a b p).2.2), (((partition ltX d a b p).1 : Nat) : Int), (partition ltX d a b p).2.1, ()) := by
  have hm : 4294967296 < many := by simp only [many]; omega
  have ha' : a < d.size := by omega
  have hp' : p < d.size := by omega
  rw [partL_eq, partL_d, partition]
  simp only [idx_at ha', idx_at hp', (swapL ha' hp').1, (swapL ha' hp').2]
  have hs' := hs
  rw [← size_swp d a p] at ha' hs' hb
  generalize swp d a p = d at *
  simp (disch := omega) only [wrap_add1, wrap_sub1, iterL_eq]
  have u1 := scanUp_ge (fun x => ltX x d[a]!) d (b - 1) (a + 1)
  have u2 := scanUp_size (fun x => ltX x d[a]!) d (b - 1) (a + 1) (by omega) (by omega)
  rw [scanUpL _ (fun x => ltX x d[a]!) d a (b - 1) hs' (by omega) (fun i h => partL_s0_at d a i (b - 1) hs' ha' (by omega) h) _ (a + 1) many rfl (by omega) (by omega)]
  generalize scanUp (fun x => ltX x d[a]!) d (b - 1) (a + 1) = i2 at *
  have v1 := scanDown_le (fun x => !ltX x d[a]!) d i2 (b - 1)
  simp only []
  rw [scanDownL _ (fun x => !ltX x d[a]!) d a i2 (by omega) (fun j h => partL_s1_at d a i2 j hs' ha' h (by omega)) (b - 1) many (by omega) (by omega)]
  generalize scanDown (fun x => !ltX x d[a]!) d i2 (b - 1) = j2 at *
  simp only [ilt_nat]
  have hj2 : j2 < d.size := by omega
  by_cases h : j2 < i2
  · simp only [h, decide_true, gt_iff_lt, if_true, idx_at ha', idx_at hj2, (swapL hj2 ha').1, (swapL hj2 ha').2]
  · have hi2 : i2 < d.size := by omega
    simp only [h, decide_false, gt_iff_lt, if_false, idx_at hi2, idx_at hj2, (swapL hi2 hj2).1, (swapL hi2 hj2).2]
    simp (disch := omega) only [wrap_add1, wrap_sub1]
    obtain ⟨q1, q2, q3⟩ := partL_loop a (j2 - 1 + 1 - (i2 + 1)) (i2 + 1) (j2 - 1) (swp d i2 j2) many rfl (by rw [size_swp]; omega) (by omega) (by rw [size_swp]; omega) (by rw [size_swp]; omega) (by rw [size_swp]; omega) (by omega)
    simp only [q1]
    rw [size_swp] at q3
    generalize partLoop ltX a (i2 + 1) (j2 - 1) (swp d i2 j2) = r at *
    have h1 : r.1 < r.2.size := by omega
    have h2 : a < r.2.size := by omega
    simp only [idx_at h1, idx_at h2, (swapL h1 h2).1, (swapL h1 h2).2]

theorem partEqL_loop (a : Nat) : ∀ (k i j : Nat) (d : Array EL) (n : Nat), j + 1 - i = k → a < d.size → 1 ≤ i → i ≤ d.size → j < d.size → d.size < 4294967296 → k < n →
    iterO partEqL_s0 n ((rep d), (a : Int), (i : Int), (j : Int), ()) = some (.inl ((rep (partEqLoop ltX a i j d).2), (((partEqLoop ltX a i j d).1 : Nat) : Int), ())) := by
  intro k
  induction k using Nat.strongRecOn with
  | _ k ih =>
  intro i j d n hk ha hi hi' hj hs hn
  have hm : 4294967296 < many := by simp only [many]; omega
  obtain ⟨n, rfl⟩ : ∃ k, n = k + 1 := ⟨n - 1, by omega⟩
  rw [partEqLoop_eq, iterO, partEqL_s0]
  have u1 := scanUp_ge (fun x => !ltX d[a]! x) d j i
  have u2 := scanUp_size (fun x => !ltX d[a]! x) d j i hj hi'
  rw [iterL_eq, scanUpL _ (fun x => !ltX d[a]! x) d a j hs hj (fun i h => partEqL_s1_at d a i j hs ha hj h) _ i many rfl hi' (by omega)]
  generalize scanUp (fun x => !ltX d[a]! x) d j i = i2 at *
  have v1 := scanDown_le (fun x => ltX d[a]! x) d i2 j
  simp only [iterL_eq]
  rw [scanDownL _ (fun x => ltX d[a]! x) d a i2 (by omega) (fun j h => partEqL_s2_at d a i2 j hs ha h (by omega)) j many hj (by omega)]
  generalize scanDown (fun x => ltX d[a]! x) d i2 j = j2 at *
  simp only [ilt_nat]
  by_cases h : j2 < i2
  · simp only [h, decide_true, gt_iff_lt, if_true]
  · have hi2 : i2 < d.size := by omega
    have hj2 : j2 < d.size := by omega
    simp only [h, decide_false, gt_iff_lt, if_false, idx_at hi2, idx_at hj2, (swapL hi2 hj2).1, (swapL hi2 hj2).2]
    simp (disch := omega) only [wrap_add1, wrap_sub1]
    exact ih (j2 - 1 + 1 - (i2 + 1)) (by omega) (i2 + 1) (j2 - 1) (swp d i2 j2) n rfl (by rw [size_swp]; omega) (by omega) (by rw [size_swp]; omega) (by rw [size_swp]; omega) (by rw [size_swp]; omega) (by omega)

theorem partEqL_val (d : Array EL) (a b p : Nat) (ha : a ≤ p) (hp : p < b) (hb : b ≤ d.size) (hs : d.size < 4294967296) :
    partEqL ((rep d), (a : Int), (b : Int), (p : Int), ()) = some ((rep (partitionEqual ltX d a b p).2), (((partitionEqual ltX d a b p).1 : Nat) : Int), ()) := by
  have hm : 4294967296 < many := by simp only [many]; omega
  have ha' : a < d.size := by omega
  have hp' : p < d.size := by omega
  rw [partEqL_eq, partEqL_d, partitionEqual]
  simp only [idx_at ha', idx_at hp', (swapL ha' hp').1, (swapL ha' hp').2]
  have hs' := hs
  rw [← size_swp d a p] at ha' hs' hb
  generalize swp d a p = d at *
  simp (disch := omega) only [wrap_add1, wrap_sub1, iterL_eq]
  rw [partEqL_loop a _ (a + 1) (b - 1) d many rfl ha' (by omega) (by omega) (by omega) hs' (by omega)]
end Go.Pev.Pl.SL
end
section
namespace Go.Pev.Pl.SL
open Go.Sort
theorem scanSorted_bounds (d : Array EL) (b : Nat) : ∀ (k i : Nat), b - i = k → i ≤ b → i ≤ scanSorted ltX d b i ∧ scanSorted ltX d b i ≤ b := by
  intro k
  induction k using Nat.strongRecOn with
  | _ k ih =>
  intro i hk hi
  rw [scanSorted]
  split
  · rename_i h
    have : i < b := by simp at h; exact h.1
    have := ih (b - (i + 1)) (by omega) (i + 1) rfl (by omega)
    omega
  · omega

theorem partInsL_scan (d : Array EL) (a b s : Nat) (hb : b ≤ d.size) (hs : d.size < 4294967296) : ∀ (k i n : Nat), b - i = k → 1 ≤ i → i ≤ b → k < n →
    iterO partInsL_s1 n ((rep d), (a : Int), (b : Int), (i : Int), (s : Int), ()) = some (.inl ((rep d), (a : Int), (b : Int), ((scanSorted ltX d b i : Nat) : Int), (s : Int), ())) := by
  intro k
  induction k using Nat.strongRecOn with
  | _ k ih =>
  intro i n hk h1 hi hn
  obtain ⟨n, rfl⟩ : ∃ k, n = k + 1 := ⟨n - 1, by omega⟩
  rw [scanSorted, iterO, partInsL_s1]
  simp only [ilt_nat]
  by_cases h : i < b
  · have i0 : i < d.size := by omega
    have i1 : i - 1 < d.size := by omega
    simp (disch := omega) only [h, decide_true, wrap_sub1, wrap_add1, idx_at, dget_at, less_val, less_lt, Bool.true_and]
    cases h2 : ltX d[i]! d[i - 1]!
    · simp only [Bool.not_false, if_true]
      exact ih (b - (i + 1)) (by omega) (i + 1) n rfl (by omega) (by omega) (by omega)
    · simp only [Bool.not_true, Bool.false_eq_true, if_false]
  · simp only [h, decide_false, Bool.false_and, Bool.false_eq_true, if_false]

theorem partInsL_down (a b i s : Nat) : ∀ (j : Nat) (d : Array EL) (n : Nat), j < d.size → d.size < 4294967296 → j < n →
    iterO partInsL_s2 n ((rep d), (a : Int), (b : Int), (i : Int), (s : Int), (j : Int), ()) = some (.inl ((rep (shiftDown ltX j d)), (a : Int), (b : Int), (i : Int), (s : Int), ())) := by
  intro j
  induction j with
  | zero =>
    intro d n hj hs hn
    obtain ⟨n, rfl⟩ : ∃ k, n = k + 1 := ⟨n - 1, by omega⟩
    rw [iterO, partInsL_s2, ile_eq, decide_eq_false (by omega)]
    rfl
  | succ j ih =>
    intro d n hj hs hn
    obtain ⟨n, rfl⟩ : ∃ k, n = k + 1 := ⟨n - 1, by omega⟩
    have hj' : j < d.size := by omega
    rw [shiftDown, iterO, partInsL_s2, ile_eq, decide_eq_true (by omega)]
    simp (disch := omega) only [wrap_sub1, Nat.add_sub_cancel, idx_at, dget_at, less_val, less_lt]
    cases h2 : ltX d[j + 1]! d[j]!
    · simp only [Bool.not_false, if_true]
    · have e1 := swapL hj hj'
      simp only [dget_at hj, dget_at hj'] at e1
      simp only [Bool.not_true, Bool.false_eq_true, if_false, e1]
      exact ih _ n (by rw [size_swp]; omega) (by rw [size_swp]; omega) (by omega)

theorem partInsL_up (a b i s : Nat) : ∀ (k j : Nat) (d : Array EL) (n : Nat), b - j = k → 1 ≤ j → b ≤ d.size → d.size < 4294967296 → k < n →
    iterO partInsL_s3 n ((rep d), (a : Int), (b : Int), (i : Int), (s : Int), (j : Int), ()) = some (.inl ((rep (shiftUp ltX b j d)), (a : Int), (b : Int), (i : Int), (s : Int), ())) := by
  intro k
  induction k using Nat.strongRecOn with
  | _ k ih =>
  intro j d n hk h1 hb hs hn
  obtain ⟨n, rfl⟩ : ∃ k, n = k + 1 := ⟨n - 1, by omega⟩
  rw [shiftUp, iterO, partInsL_s3]
  simp only [ilt_nat]
  by_cases h : j < b
  · have i0 : j < d.size := by omega
    have i1 : j - 1 < d.size := by omega
    simp (disch := omega) only [h, decide_true, if_true, wrap_sub1, wrap_add1, idx_at, dget_at, less_val, less_lt]
    cases h2 : ltX d[j]! d[j - 1]!
    · simp only [Bool.not_false, if_true]
    · have e1 := swapL i0 i1
      simp only [dget_at i0, dget_at i1] at e1
      simp only [Bool.not_true, Bool.false_eq_true, if_false, e1]
      exact ih (b - (j + 1)) (by omega) (j + 1) _ n rfl (by omega) (by rw [size_swp]; omega) (by rw [size_swp]; omega) (by omega)
  · simp only [h, decide_false, if_false]

theorem size_shiftDown : ∀ (j : Nat) (d : Array EL), (shiftDown ltX j d).size = d.size := by
  intro j
  induction j with
  | zero => intro d; rfl
  | succ j ih =>
    intro d
    rw [shiftDown]
    split
    · rfl
    · rw [ih, size_swp]
theorem size_shiftUp (b : Nat) : ∀ (k j : Nat) (d : Array EL), b - j = k → (shiftUp ltX b j d).size = d.size := by
  intro k
  induction k using Nat.strongRecOn with
  | _ k ih =>
  intro j d hk
  rw [shiftUp]
  split
  · split
    · rfl
    · rw [ih (b - (j + 1)) (by omega) (j + 1) _ rfl, size_swp]
  · rfl

theorem partInsL_loop (a b : Nat) (hab : a < b) : ∀ (k i s : Nat) (d : Array EL) (n : Nat), s + k = 5 → a + 1 ≤ i → i ≤ b → b ≤ d.size → d.size < 4294967296 → k < n →
    iterO partInsL_s0 n ((rep d), (a : Int), (b : Int), (i : Int), (s : Int), ()) = some (.inl ((rep (partialIns ltX a b k i d).1), (partialIns ltX a b k i d).2, ())) ∨
    ((partialIns ltX a b k i d).2 = false ∧ iterO partInsL_s0 n ((rep d), (a : Int), (b : Int), (i : Int), (s : Int), ()) = some (.inr (.inl ((rep (partialIns ltX a b k i d).1), ())))) := by
  intro k
  induction k with
  | zero =>
    intro i s d n hk h1 hi hb hs hn
    obtain ⟨n, rfl⟩ : ∃ k, n = k + 1 := ⟨n - 1, by omega⟩
    rw [iterO, partInsL_s0, ilt_eq, decide_eq_false (by omega)]
    exact .inr ⟨rfl, rfl⟩
  | succ k ih =>
    intro i s d n hk h1 hi hb hs hn
    have hm : 4294967296 < many := by simp only [many]; omega
    have es : IntKind.wrap .i64 ((s : Int) + 1) = ((s + 1 : Nat) : Int) := wrap_add1 (by omega)
    obtain ⟨n, rfl⟩ : ∃ k, n = k + 1 := ⟨n - 1, by omega⟩
    rw [iterO, partInsL_s0, ilt_eq, decide_eq_true (by omega), partialIns]
    simp only [iterL_eq, partInsL_scan d a b s hb hs (b - i) i many rfl (by omega) hi (by omega)]
    have hsc := scanSorted_bounds d b _ i rfl hi
    generalize scanSorted ltX d b i = i2 at *
    simp only [ieq_nat]
    by_cases h2 : i2 = b
    · simp only [h2, decide_true, if_true, true_or]
    · simp (disch := omega) only [h2, decide_false, if_false, wrap_sub, ilt_eq, ile_eq]
      by_cases h3 : b - a < 50
      · rw [if_pos h3, decide_eq_true (by omega)]
        exact .inl rfl
      · have i0 : i2 < d.size := by omega
        have i1 : i2 - 1 < d.size := by omega
        rw [if_neg h3, decide_eq_false (by omega)]
        simp (disch := omega) only [wrap_sub1, wrap_add1, idx_at i0, idx_at i1, (swapL i0 i1).1, (swapL i0 i1).2]
        have hsz := size_swp d i2 (i2 - 1)
        generalize swp d i2 (i2 - 1) = d2 at *
        by_cases h4 : i2 - a ≥ 2
        · rw [if_pos h4, decide_eq_true (show (2 : Int) ≤ ((i2 - a : Nat) : Int) by omega)]
          simp only [partInsL_down a b i2 s (i2 - 1) d2 many (by omega) (by omega) (by omega)]
          have hsz2 := size_shiftDown (i2 - 1) d2
          generalize shiftDown ltX (i2 - 1) d2 = d3 at *
          simp (disch := omega) only [wrap_sub, wrap_add1]
          by_cases h5 : b - i2 ≥ 2
          · rw [if_pos h5, decide_eq_true (show (2 : Int) ≤ ((b - i2 : Nat) : Int) by omega)]
            simp only [partInsL_up a b i2 s _ (i2 + 1) d3 many rfl (by omega) (by omega) (by omega) (by omega)]
            simp only [es]
            exact ih i2 (s + 1) (shiftUp ltX b (i2 + 1) d3) n (by omega) (by omega) (by omega) (by rw [size_shiftUp b (b - (i2 + 1)) (i2 + 1) _ rfl]; omega) (by rw [size_shiftUp b (b - (i2 + 1)) (i2 + 1) _ rfl]; omega) (by omega)
          · rw [if_neg h5, decide_eq_false (show ¬ (2 : Int) ≤ ((b - i2 : Nat) : Int) by omega)]
            simp only [es]
            exact ih i2 (s + 1) d3 n (by omega) (by omega) (by omega) (by omega) (by omega) (by omega)
        · rw [if_neg h4, decide_eq_false (show ¬ (2 : Int) ≤ ((i2 - a : Nat) : Int) by omega)]
          by_cases h5 : b - i2 ≥ 2
          · rw [if_pos h5, decide_eq_true (show (2 : Int) ≤ ((b - i2 : Nat) : Int) by omega)]
            simp only [partInsL_up a b i2 s _ (i2 + 1) d2 many rfl (by omega) (by omega) (by omega) (by omega)]
            simp only [es]
            exact ih i2 (s + 1) (shiftUp ltX b (i2 + 1) d2) n (by omega) (by omega) (by omega) (by rw [size_shiftUp b (b - (i2 + 1)) (i2 + 1) _ rfl]; omega) (by rw [size_shiftUp b (b - (i2 + 1)) (i2 + 1) _ rfl]; omega) (by omega)
          · rw [if_neg h5, decide_eq_false (show ¬ (2 : Int) ≤ ((b - i2 : Nat) : Int) by omega)]
            simp only [es]
            exact ih i2 (s + 1) d2 n (by omega) (by omega) (by omega) (by omega) (by omega) (by omega)

theorem partInsL_val (d : Array EL) (a b : Nat) (hab : a < b) (hb : b ≤ d.size) (hs : d.size < 4294967296) :
    partInsL ((rep d), (a : Int), (b : Int), ()) = some ((rep (partialInsertionSort ltX d a b).1), (partialInsertionSort ltX d a b).2, ()) := by
  have hm : 4294967296 < many := by simp only [many]; omega
  rw [partInsL_eq, partInsL_d, partialInsertionSort]
  simp (disch := omega) only [wrap_add1, iterL_eq]
  have h := partInsL_loop a b hab 5 (a + 1) 0 d many rfl (Nat.le_refl _) (by omega) hb hs (by omega)
  rcases h with h | ⟨h0, h⟩
  · have h' : iterO partInsL_s0 many ((rep d), (a : Int), (b : Int), ((a + 1 : Nat) : Int), (0 : Int), ()) = _ := h
    rw [h']
  · have h' : iterO partInsL_s0 many ((rep d), (a : Int), (b : Int), ((a + 1 : Nat) : Int), (0 : Int), ()) = _ := h
    rw [h', h0]

/- the pivot: of it only its place is told -/
theorem order2L_val (d : Array EL) (a b : Nat) (s : Int) (ha : a < d.size) (hb : b < d.size) :
    ∃ s' p q, order2L ((rep d), (a : Int), (b : Int), s, ()) = some ((rep d), s', ((p : Nat) : Int), ((q : Nat) : Int), ()) ∧ (p = a ∧ q = b ∨ p = b ∧ q = a) := by
  rw [order2L_eq, order2L_d]
  simp only [idx_at ha, idx_at hb, dget_at ha, dget_at hb, less_val, less_lt]
  cases ltX d[b]! d[a]!
  · exact ⟨_, a, b, rfl, .inl ⟨rfl, rfl⟩⟩
  · exact ⟨_, b, a, rfl, .inr ⟨rfl, rfl⟩⟩

theorem medianL_val (d : Array EL) (a b c : Nat) (s : Int) (ha : a < d.size) (hb : b < d.size) (hc : c < d.size) :
    ∃ s' p, medianL ((rep d), (a : Int), (b : Int), (c : Int), s, ()) = some ((rep d), s', ((p : Nat) : Int), ()) ∧ (p = a ∨ p = b ∨ p = c) := by
  rw [medianL_eq, medianL_d]
  obtain ⟨s1, p1, q1, e1, h1⟩ := order2L_val d a b s ha hb
  simp only [e1]
  obtain ⟨s2, p2, q2, e2, h2⟩ := order2L_val d q1 c s1 (by omega) hc
  simp only [e2]
  obtain ⟨s3, p3, q3, e3, h3⟩ := order2L_val d p1 p2 s2 (by omega) (by omega)
  simp only [e3]
  exact ⟨_, q3, rfl, by omega⟩

theorem medAdjL_val (d : Array EL) (a : Nat) (s : Int) (h1 : 1 ≤ a) (ha : a + 1 < d.size) (hs : d.size < 4294967296) :
    ∃ s' p, medAdjL ((rep d), (a : Int), s, ()) = some ((rep d), s', ((p : Nat) : Int), ()) ∧ a ≤ p + 1 ∧ p ≤ a + 1 := by
  rw [medAdjL_eq, medAdjL_d]
  simp (disch := omega) only [wrap_sub1, wrap_add1]
  obtain ⟨s1, p1, e1, h1⟩ := medianL_val d (a - 1) a (a + 1) s (by omega) (by omega) ha
  simp only [e1]
  exact ⟨_, p1, rfl, by omega⟩

theorem pivotL_val (d : Array EL) (a b : Nat) (hab : a + 8 ≤ b) (hb : b ≤ d.size) (hs : d.size < 4294967296) :
    ∃ p h, pivotL ((rep d), (a : Int), (b : Int), ()) = some ((rep d), ((p : Nat) : Int), h, ()) ∧ a ≤ p ∧ p < b := by
  rw [pivotL_eq, pivotL_d]
  simp (disch := omega) only [wrap_sub, quo_4, wrap_mul1, wrap_mul2, wrap_mul3, wrap_add, ile_eq]
  rw [decide_eq_true (show (8 : Int) ≤ ((b - a : Nat) : Int) by omega)]
  simp only []
  by_cases h : 50 ≤ b - a
  · rw [decide_eq_true (show (50 : Int) ≤ ((b - a : Nat) : Int) by omega)]
    simp only []
    obtain ⟨s1, p1, e1, h1⟩ := medAdjL_val d (a + (b - a) / 4 * 1) 0 (by omega) (by omega) hs
    simp only [e1]
    obtain ⟨s2, p2, e2, h2⟩ := medAdjL_val d (a + (b - a) / 4 * 2) s1 (by omega) (by omega) hs
    simp only [e2]
    obtain ⟨s3, p3, e3, h3⟩ := medAdjL_val d (a + (b - a) / 4 * 3) s2 (by omega) (by omega) hs
    simp only [e3]
    obtain ⟨s4, p4, e4, h4⟩ := medianL_val d p1 p2 p3 s3 (by omega) (by omega) (by omega)
    simp only [e4]
    cases ieq s4 0
    · cases ieq s4 12
      · exact ⟨p4, _, rfl, by omega, by omega⟩
      · exact ⟨p4, _, rfl, by omega, by omega⟩
    · exact ⟨p4, _, rfl, by omega, by omega⟩
  · rw [decide_eq_false (show ¬ (50 : Int) ≤ ((b - a : Nat) : Int) by omega)]
    simp only []
    obtain ⟨s4, p4, e4, h4⟩ := medianL_val d (a + (b - a) / 4 * 1) (a + (b - a) / 4 * 2) (a + (b - a) / 4 * 3) 0 (by omega) (by omega) (by omega)
    simp only [e4]
    cases ieq s4 0
    · cases ieq s4 12
      · exact ⟨p4, _, rfl, by omega, by omega⟩
      · exact ⟨p4, _, rfl, by omega, by omega⟩
    · exact ⟨p4, _, rfl, by omega, by omega⟩
end Go.Pev.Pl.SL
end
section
/- Bits: how long a number is. -/
namespace Go.Pev.Pl
open Go.Sort
set_option maxRecDepth 100000
def tab64 : List Int := [(0 : Int), (1 : Int), (2 : Int), (2 : Int), (3 : Int), (3 : Int), (3 : Int), (3 : Int), (4 : Int), (4 : Int), (4 : Int), (4 : Int), (4 : Int), (4 : Int), (4 : Int), (4 : Int), (5 : Int), (5 : Int), (5 : Int), (5 : Int), (5 : Int), (5 : Int), (5 : Int), (5 : Int), (5 : Int), (5 : Int), (5 : Int), (5 : Int), (5 : Int), (5 : Int), (5 : Int), (5 : Int), (6 : Int), (6 : Int), (6 : Int), (6 : Int), (6 : Int), (6 : Int), (6 : Int), (6 : Int), (6 : Int), (6 : Int), (6 : Int), (6 : Int), (6 : Int), (6 : Int), (6 : Int), (6 : Int), (6 : Int), (6 : Int), (6 : Int), (6 : Int), (6 : Int), (6 : Int), (6 : Int), (6 : Int), (6 : Int), (6 : Int), (6 : Int), (6 : Int), (6 : Int), (6 : Int), (6 : Int), (6 : Int), (7 : Int), (7 : Int), (7 : Int), (7 : Int), (7 : Int), (7 : Int), (7 : Int), (7 : Int), (7 : Int), (7 : Int), (7 : Int), (7 : Int), (7 : Int), (7 : Int), (7 : Int), (7 : Int), (7 : Int), (7 : Int), (7 : Int), (7 : Int), (7 : Int), (7 : Int), (7 : Int), (7 : Int), (7 : Int), (7 : Int), (7 : Int), (7 : Int), (7 : Int), (7 : Int), (7 : Int), (7 : Int), (7 : Int), (7 : Int), (7 : Int), (7 : Int), (7 : Int), (7 : Int), (7 : Int), (7 : Int), (7 : Int), (7 : Int), (7 : Int), (7 : Int), (7 : Int), (7 : Int), (7 : Int), (7 : Int), (7 : Int), (7 : Int), (7 : Int), (7 : Int), (7 : Int), (7 : Int), (7 : Int), (7 : Int), (7 : Int), (7 : Int), (7 : Int), (7 : Int), (7 : Int), (7 : Int), (7 : Int), (7 : Int), (8 : Int), (8 : Int), (8 : Int), (8 : Int), (8 : Int), (8 : Int), (8 : Int), (8 : Int), (8 : Int), (8 : Int), (8 : Int), (8 : Int), (8 : Int), (8 : Int), (8 : Int), (8 : Int), (8 : Int), (8 : Int), (8 : Int), (8 : Int), (8 : Int), (8 : Int), (8 : Int), (8 : Int), (8 : Int), (8 : Int), (8 : Int), (8 : Int), (8 : Int), (8 : Int), (8 : Int), (8 : Int), (8 : Int), (8 : Int), (8 : Int), (8 : Int), (8 : Int), (8 : Int), (8 : Int), (8 : Int), (8 : Int), (8 : Int), (8 : Int), (8 : Int), (8 : Int), (8 : Int), (8 : Int), (8 : Int), (8 : Int), (8 : Int), (8 : Int), (8 : Int), (8 : Int), (8 : Int), (8 : Int), (8 : Int), (8 : Int), (8 : Int), (8 : Int), (8 : Int), (8 : Int), (8 : Int), (8 : Int), (8 : Int), (8 : Int), (8 : Int), (8 : Int), (8 : Int), (8 : Int), (8 : Int), (8 : Int), (8 : Int), (8 : Int), (8 : Int), (8 : Int), (8 : Int), (8 : Int), (8 : Int), (8 : Int), (8 : Int), (8 : Int), (8 : Int), (8 : Int), (8 : Int), (8 : Int), (8 : Int), (8 : Int), (8 : Int), (8 : Int), (8 : Int), (8 : Int), (8 : Int), (8 : Int), (8 : Int), (8 : Int), (8 : Int), (8 : Int), (8 : Int), (8 : Int), (8 : Int), (8 : Int), (8 : Int), (8 : Int), (8 : Int), (8 : Int), (8 : Int), (8 : Int), (8 : Int), (8 : Int), (8 : Int), (8 : Int), (8 : Int), (8 : Int), (8 : Int), (8 : Int), (8 : Int), (8 : Int), (8 : Int), (8 : Int), (8 : Int), (8 : Int), (8 : Int), (8 : Int), (8 : Int), (8 : Int), (8 : Int), (8 : Int), (8 : Int)]
theorem tab64_ok : (List.range 256).all (fun k => match tab64[k]? with
    | some v => decide (0 ≤ v) && (decide (v ≤ 8) && decide (2 ^ v.toNat ≤ max 1 (2 * k)))
    | none => false) = true := by decide +kernel
theorem tab64_at {k : Nat} (h : k < 256) : ∃ v : Nat, idx tab64 (k : Int) = some (v : Int) ∧ v ≤ 8 ∧ 2 ^ v ≤ max 1 (2 * k) := by
  have := List.all_eq_true.1 tab64_ok k (List.mem_range.2 h)
  rw [idx_eq, idxR, if_neg (by omega), Int.toNat_natCast]
  cases e : tab64[k]? with
  | none => rw [e] at this; cases this
  | some v =>
    rw [e] at this
    simp only [Bool.and_eq_true, decide_eq_true_eq] at this
    exact ⟨v.toNat, by rw [Int.toNat_of_nonneg this.1], by omega, this.2.2⟩
theorem shr_nat (n s : Nat) (h : s ≤ 64) : shr? .u64 (n : Int) (s : Int) = some ((n / 2 ^ s : Nat) : Int) := by
  rw [shr_eq, shrR, if_neg (by omega), Int.toNat_natCast, show min s (IntKind.bits .u64) = s from Nat.min_eq_left h, Int.fdiv_eq_ediv_of_nonneg _ (Int.pow_nonneg (by omega))]
  rfl
theorem u8_in {n : Int} (h : 0 ≤ n ∧ n ≤ 255) : IntKind.wrap .u8 n = n := IntWalk.u8_in n h
theorem u64_in {n : Int} (h : 0 ≤ n ∧ n ≤ 18446744073709551615) : IntKind.wrap .u64 n = n := IntWalk.u64_in n h
theorem len64_val (n : Nat) (hn : n < 4294967296) : ∃ v : Nat, len64 ((n : Int), ()) = some ((v : Int), ()) ∧ v ≤ 32 ∧ 2 ^ v ≤ max 1 (2 * n) := by
  rw [len64_eq, len64_d, ile_eq, decide_eq_false (by omega)]
  simp only [ile_eq]
  have key : ∀ (s m : Nat), s ≤ 24 → m < 256 → m * 2 ^ s ≤ n → (s = 0 ∨ 1 ≤ m) → ∃ v : Nat, idx tab64 (m : Int) = some (v : Int) ∧ v ≤ 8 ∧ 2 ^ (s + v) ≤ max 1 (2 * n) := by
    intro s m hs hm hle h1
    obtain ⟨v, e, h8, hp⟩ := tab64_at hm
    refine ⟨v, e, h8, ?_⟩
    rcases h1 with rfl | h1
    · rw [Nat.zero_add]; simp at hle; omega
    · have h2 : 2 ^ v ≤ 2 * m := by omega
      have h3 : 2 ^ (s + v) ≤ 2 * (m * 2 ^ s) := by
        rw [Nat.pow_add, Nat.mul_comm (2 ^ s), ← Nat.mul_assoc]
        exact Nat.mul_le_mul_right _ h2
      omega
  by_cases h1 : 65536 ≤ n
  · rw [decide_eq_true (show (65536 : Int) ≤ (n : Int) by omega)]
    have e16 : shr? .u64 (n : Int) 16 = some ((n / 65536 : Nat) : Int) := shr_nat n 16 (by omega)
    simp only [e16]
    by_cases h2 : 256 ≤ n / 65536
    · rw [decide_eq_true (show (256 : Int) ≤ ((n / 65536 : Nat) : Int) by omega)]
      have e8 : shr? .u64 ((n / 65536 : Nat) : Int) 8 = some ((n / 65536 / 256 : Nat) : Int) := shr_nat _ 8 (by omega)
      obtain ⟨v, e, h8, hp⟩ := key 24 (n / 65536 / 256) (by omega) (by omega) (by omega) (by omega)
      rw [tab64] at e
      simp only [e8]
      rw [u8_in (by omega)]
      simp only [e]
      refine ⟨24 + v, ?_, by omega, hp⟩
      rw [wrap_in (n := 0 + 16) (by omega), wrap_in (n := (0 : Int) + 16 + 8) (by omega), wrap_in (n := (v : Int)) (by omega), wrap_in (by omega)]
      congr 2
    · rw [decide_eq_false (show ¬ (256 : Int) ≤ ((n / 65536 : Nat) : Int) by omega)]
      obtain ⟨v, e, h8, hp⟩ := key 16 (n / 65536) (by omega) (by omega) (by omega) (by omega)
      rw [tab64] at e
      simp only []
      rw [u8_in (by omega)]
      simp only [e]
      refine ⟨16 + v, ?_, by omega, hp⟩
      rw [wrap_in (n := 0 + 16) (by omega), wrap_in (n := (v : Int)) (by omega), wrap_in (by omega)]
      congr 2
  · rw [decide_eq_false (show ¬ (65536 : Int) ≤ (n : Int) by omega)]
    by_cases h2 : 256 ≤ n
    · have e8 : shr? .u64 (n : Int) 8 = some ((n / 256 : Nat) : Int) := shr_nat n 8 (by omega)
      obtain ⟨v, e, h8, hp⟩ := key 8 (n / 256) (by omega) (by omega) (by omega) (by omega)
      rw [tab64] at e
      simp only []
      rw [decide_eq_true (show (256 : Int) ≤ (n : Int) by omega)]
      simp only [e8]
      rw [u8_in (by omega)]
      simp only [e]
      refine ⟨8 + v, ?_, by omega, hp⟩
      rw [wrap_in (n := 0 + 8) (by omega), wrap_in (n := (v : Int)) (by omega), wrap_in (by omega)]
      congr 2
    · obtain ⟨v, e, h8, hp⟩ := key 0 n (by omega) (by omega) (by omega) (by omega)
      rw [tab64] at e
      simp only []
      rw [decide_eq_false (show ¬ (256 : Int) ≤ (n : Int) by omega)]
      simp only []
      rw [u8_in (by omega)]
      simp only [e]
      refine ⟨0 + v, ?_, by omega, hp⟩
      rw [wrap_in (n := (v : Int)) (by omega), wrap_in (by omega)]
      congr 2

theorem bitsLen_val (n : Nat) (hn : n < 4294967296) : ∃ v : Nat, bitsLen ((n : Int), ()) = some ((v : Int), ()) ∧ v ≤ 32 ∧ 2 ^ v ≤ max 1 (2 * n) := by
  rw [bitsLen_eq, bitsLen_d]
  obtain ⟨v, e, h⟩ := len64_val n hn
  simp only [e]
  exact ⟨v, rfl, h⟩

theorem nextPow_val (n : Nat) (h1 : 1 ≤ n) (hn : n < 4294967296) : ∃ m : Nat, nextPow ((n : Int), ()) = some ((m : Int), ()) ∧ 1 ≤ m ∧ m ≤ 2 * n := by
  rw [nextPow_eq, nextPow_d, u64_in (by omega)]
  obtain ⟨v, e, h32, hp⟩ := bitsLen_val n hn
  simp only [e]
  have e2 : shl? .u64 (1 : Int) (v : Int) = some ((2 ^ v : Nat) : Int) := by
    rw [shl_eq, shlR, if_neg (by omega), Int.toNat_natCast, show min v (IntKind.bits .u64) = v from Nat.min_eq_left (by show v ≤ 64; omega), Int.one_mul]
    have : 2 ^ v ≤ 2 ^ 32 := Nat.pow_le_pow_right (by omega) h32
    have h1 : 1 ≤ 2 ^ v := Nat.one_le_two_pow
    have e : ((2 : Int) ^ v) = ((2 ^ v : Nat) : Int) := by simp
    rw [e, u64_in (by constructor <;> omega)]
  simp only [e2]
  exact ⟨2 ^ v, rfl, Nat.one_le_two_pow, by omega⟩

theorem xorNext_val (r : Int) : ∃ r' y, xorNext (r, ()) = some (r', y, ()) := by
  rw [xorNext_eq, xorNext_d, shl_eq, shlR, if_neg (by omega)]
  simp only []
  rw [shr_eq, shrR, if_neg (by omega)]
  simp only []
  rw [shl_eq, shlR, if_neg (by omega)]
  exact ⟨_, _, rfl⟩

theorem other_le (y : Int) (m : Nat) (h1 : 1 ≤ m) (hm : m < 18446744073709551616) : ∃ o : Nat, IntKind.wrap .u64 ((BitVec.ofInt (IntKind.bits .u64) y &&& BitVec.ofInt (IntKind.bits .u64) (IntKind.wrap .u64 ((m : Int) - 1))).toNat) = (o : Int) ∧ o < m := by
  rw [u64_in (n := (m : Int) - 1) (by omega), show (m : Int) - 1 = ((m - 1 : Nat) : Int) by omega, BitVec.toNat_and]
  have h2 : (BitVec.ofInt (IntKind.bits .u64) ((m - 1 : Nat) : Int)).toNat = m - 1 := by
    rw [BitVec.ofInt_natCast, BitVec.toNat_ofNat]
    exact Nat.mod_eq_of_lt (by show m - 1 < 18446744073709551616; omega)
  rw [h2]
  have h3 : (BitVec.ofInt (IntKind.bits .u64) y).toNat &&& (m - 1) ≤ m - 1 := Nat.and_le_right
  exact ⟨_, u64_in (by omega), by omega⟩

end Go.Pev.Pl
end
section
namespace Go.Pev.Pl.SL
open Go.Sort
theorem breakL_loop (a b : Nat) (m : Nat) (h8 : a + 8 ≤ b) (hm1 : 1 ≤ m) (hm : m ≤ 2 * (b - a)) : ∀ (k t : Nat) (d : Array EL) (r : Int) (n : Nat), t + k = 3 → b ≤ d.size → d.size < 4294967296 → k < n →
    ∃ d' : Array EL, iterO breakL_s0 n ((rep d), (a : Int), ((b - a : Nat) : Int), r, (m : Int), ((a + (b - a) / 4 * 2 - 1 + t : Nat) : Int), ()) = some (.inl ((rep d'), ())) ∧ PermIn a b d d' := by
  intro k
  induction k with
  | zero =>
    intro t d r n hk hb hs hn
    obtain ⟨n, rfl⟩ : ∃ k, n = k + 1 := ⟨n - 1, by omega⟩
    rw [iterO, breakL_s0]
    simp (disch := omega) only [quo_4, wrap_mul2, wrap_add, wrap_add1, ile_nat]
    rw [decide_eq_false (by omega)]
    exact ⟨d, rfl, permIn_refl d a b⟩
  | succ k ih =>
    intro t d r n hk hb hs hn
    obtain ⟨n, rfl⟩ : ∃ k, n = k + 1 := ⟨n - 1, by omega⟩
    rw [iterO, breakL_s0]
    simp (disch := omega) only [quo_4, wrap_mul2, wrap_add, wrap_add1, ile_nat]
    rw [decide_eq_true (show a + (b - a) / 4 * 2 - 1 + t ≤ a + (b - a) / 4 * 2 + 1 by omega)]
    obtain ⟨r', y, e⟩ := xorNext_val r
    obtain ⟨o, e2, ho⟩ := other_le y m hm1 (by omega)
    simp only [e, e2]
    rw [wrap_in (n := (o : Int)) (by omega)]
    simp only [ile_nat]
    have i0 : a + (b - a) / 4 * 2 - 1 + t < d.size := by omega
    have fin : ∀ q : Nat, a ≤ q → q < b → ∃ d' : Array EL, iterO breakL_s0 n ((rep (swp d (a + (b - a) / 4 * 2 - 1 + t) q)), (a : Int), ((b - a : Nat) : Int), r', (m : Int), ((a + (b - a) / 4 * 2 - 1 + t + 1 : Nat) : Int), ()) = some (.inl ((rep d'), ())) ∧ PermIn a b d d' := by
      intro q hq1 hq2
      obtain ⟨d', e', hp⟩ := ih (t + 1) (swp d (a + (b - a) / 4 * 2 - 1 + t) q) r' n (by omega) (by rw [size_swp]; omega) (by rw [size_swp]; omega) (by omega)
      exact ⟨d', e', permIn_trans _ _ _ a b (swp_permIn d a b _ q (by omega) (by omega) hq1 hq2 hb) hp⟩
    by_cases h : b - a ≤ o
    · have i1 : a + (o - (b - a)) < d.size := by omega
      simp (disch := omega) only [h, decide_true, wrap_sub, wrap_add, wrap_add1, idx_at i0, idx_at i1, (swapL i0 i1).1, (swapL i0 i1).2]
      exact fin _ (by omega) (by omega)
    · have i1 : a + o < d.size := by omega
      simp (disch := omega) only [h, decide_false, wrap_sub, wrap_add, wrap_add1, idx_at i0, idx_at i1, (swapL i0 i1).1, (swapL i0 i1).2]
      exact fin _ (by omega) (by omega)

theorem breakL_val (d : Array EL) (a b : Nat) (hab : a ≤ b) (hb : b ≤ d.size) (hs : d.size < 4294967296) :
    ∃ d' : Array EL, breakL ((rep d), (a : Int), (b : Int), ()) = some ((rep d'), ()) ∧ PermIn a b d d' := by
  have hm : 4294967296 < many := by simp only [many]; omega
  rw [breakL_eq, breakL_d]
  simp (disch := omega) only [wrap_sub, ile_eq]
  by_cases h : 8 ≤ b - a
  · rw [decide_eq_true (show (8 : Int) ≤ ((b - a : Nat) : Int) by omega)]
    obtain ⟨m, e, h1, h2⟩ := nextPow_val (b - a) (by omega) (by omega)
    simp only [e]
    rw [u64_in (n := ((b - a : Nat) : Int)) (by omega)]
    simp (disch := omega) only [quo_4, wrap_mul2, wrap_add, wrap_sub1, iterL_eq]
    obtain ⟨d', e2, hp⟩ := breakL_loop a b m (by omega) h1 h2 3 0 d ((b - a : Nat) : Int) many rfl hb hs (by omega)
    rw [Nat.add_zero] at e2
    simp only [e2]
    exact ⟨d', rfl, hp⟩
  · rw [decide_eq_false (show ¬ (8 : Int) ≤ ((b - a : Nat) : Int) by omega)]
    exact ⟨d, rfl, permIn_refl d a b⟩
end Go.Pev.Pl.SL
end
section
namespace Go.Pev.Pl.SL
open Go.Sort
abbrev PdqSt := List (List Int) × Int × Int × Int × Bool × Bool × Unit
abbrev PdqOutT := PdqSt ⊕ (List (List Int) × Unit) ⊕ Unit
noncomputable section
def pdqTail (self : (List (List Int) × Int × Int × Int × Unit) → Option ((List (List Int) × Unit))) (y7 : List (List Int)) (a1 a2 p l : Int) (a4 a5 : Bool) : Option PdqOutT :=
  match (ilt (0 : Int) a1) with
  | true => match idx y7 (IntKind.wrap .i64 (a1 - (1 : Int))) with
    | none => none
    | some x9 => match idx y7 p with
      | none => none
      | some x10 => match with1 ((dget y7 (dnat (IntKind.wrap .i64 (a1 - (1 : Int)))) ([] : List Int)), (dget y7 (dnat p) ([] : List Int)), ()) with
        | none => none
        | some (y11, _) => match (!(ilt y11 (0 : Int))) with
          | true => match partEqL (y7, a1, a2, p, ()) with
            | none => none
            | some (y12, y13, _) => some (.inl (y12, y13, a2, l, a4, a5, ()))
          | false => match partL (y7, a1, a2, p, ()) with
            | none => none
            | some (y14, y15, y16, _) => match quo? .i64 (IntKind.wrap .i64 (a2 - a1)) (8 : Int) with
              | none => none
              | some x17 => match (ilt (IntKind.wrap .i64 (y15 - a1)) (IntKind.wrap .i64 (a2 - y15))) with
                | true => match self (y14, a1, y15, l, ()) with
                  | none => none
                  | some (y18, _) => some (.inl (y18, (IntKind.wrap .i64 (y15 + (1 : Int))), a2, l, (ile x17 (IntKind.wrap .i64 (y15 - a1))), y16, ()))
                | false => match self (y14, (IntKind.wrap .i64 (y15 + (1 : Int))), a2, l, ()) with
                  | none => none
                  | some (y19, _) => some (.inl (y19, a1, y15, l, (ile x17 (IntKind.wrap .i64 (a2 - y15))), y16, ()))
  | false => match partL (y7, a1, a2, p, ()) with
    | none => none
    | some (y20, y21, y22, _) => match quo? .i64 (IntKind.wrap .i64 (a2 - a1)) (8 : Int) with
      | none => none
      | some x23 => match (ilt (IntKind.wrap .i64 (y21 - a1)) (IntKind.wrap .i64 (a2 - y21))) with
        | true => match self (y20, a1, y21, l, ()) with
          | none => none
          | some (y24, _) => some (.inl (y24, (IntKind.wrap .i64 (y21 + (1 : Int))), a2, l, (ile x23 (IntKind.wrap .i64 (y21 - a1))), y22, ()))
        | false => match self (y20, (IntKind.wrap .i64 (y21 + (1 : Int))), a2, l, ()) with
          | none => none
          | some (y25, _) => some (.inl (y25, a1, y21, l, (ile x23 (IntKind.wrap .i64 (a2 - y21))), y22, ()))
def pdqEnd (self : (List (List Int) × Int × Int × Int × Unit) → Option ((List (List Int) × Unit))) (y6 : List (List Int)) (a1 a2 p h l : Int) (a4 a5 : Bool) : Option PdqOutT :=
  match a4 with
  | true => match a5 with
    | true => match (ieq h (1 : Int)) with
      | true => match partInsL (y6, a1, a2, ()) with
        | none => none
        | some (y7, y8, _) => match y8 with
          | true => some (.inr (.inl (y7, ())))
          | false => pdqTail self y7 a1 a2 p l a4 a5
      | false => pdqTail self y6 a1 a2 p l a4 a5
    | false => pdqTail self y6 a1 a2 p l a4 a5
  | false => pdqTail self y6 a1 a2 p l a4 a5
def pdqMid (self : (List (List Int) × Int × Int × Int × Unit) → Option ((List (List Int) × Unit))) (y2 : List (List Int)) (a1 a2 l : Int) (a4 a5 : Bool) : Option PdqOutT :=
  match pivotL (y2, a1, a2, ()) with
  | none => none
  | some (y3, y4, y5, _) => match (ieq y5 (2 : Int)) with
    | true => match revL (y3, a1, a2, ()) with
      | none => none
      | some (y6, _) => pdqEnd self y6 a1 a2 (IntKind.wrap .i64 ((IntKind.wrap .i64 (a2 - (1 : Int))) - (IntKind.wrap .i64 (y4 - a1)))) 1 l a4 a5
    | false => pdqEnd self y3 a1 a2 y4 y5 l a4 a5
def pdqRound (self : (List (List Int) × Int × Int × Int × Unit) → Option ((List (List Int) × Unit))) : PdqSt → Option PdqOutT := fun (a0, a1, a2, a3, a4, a5, _) =>
  match (ile (IntKind.wrap .i64 (a2 - a1)) (12 : Int)) with
  | true => match insL (a0, a1, a2, ()) with
    | none => none
    | some (y0, _) => some (.inr (.inl (y0, ())))
  | false => match (ieq a3 (0 : Int)) with
    | true => match heapL (a0, a1, a2, ()) with
      | none => none
      | some (y1, _) => some (.inr (.inl (y1, ())))
    | false => match (!a4) with
      | true => match breakL (a0, a1, a2, ()) with
        | none => none
        | some (y2, _) => pdqMid self y2 a1 a2 (IntKind.wrap .i64 (a3 - (1 : Int))) a4 a5
      | false => pdqMid self a0 a1 a2 a3 a4 a5
theorem pdqL_s0_round : pdqL_s0 = pdqRound := rfl
end

/-- what a round of the loop may end in -/
def PdqOut (d : Array EL) (a b : Nat) : PdqOutT → Prop
  | .inl (xs, x, y, l, _, _, _) => ∃ (e : Array EL) (i j : Nat), xs = (rep e) ∧ x = (i : Int) ∧ y = (j : Int) ∧ 0 ≤ l ∧ l ≤ 100 ∧ i ≤ j ∧ j ≤ e.size ∧ e.size = d.size ∧ j - i < b - a ∧ Below ltX i j e ∧
      ∀ R, PermIn i j e R → SortedIn ltX i j R → PermIn a b d R ∧ SortedIn ltX a b R
  | .inr (.inl (xs, _)) => ∃ R : Array EL, xs = (rep R) ∧ PermIn a b d R ∧ SortedIn ltX a b R
  | .inr (.inr _) => False

def PdqCalls (self : (List (List Int) × Int × Int × Int × Unit) → Option ((List (List Int) × Unit))) (m : Nat) : Prop :=
  ∀ (d : Array EL) (a b : Nat) (l : Int), a ≤ b → b ≤ d.size → d.size < 4294967296 → 0 ≤ l → l ≤ 100 → Below ltX a b d → 2 * (b - a) < m →
    ∃ R : Array EL, self ((rep d), (a : Int), (b : Int), l, ()) = some ((rep R), ()) ∧ PermIn a b d R ∧ SortedIn ltX a b R

section
variable {self : (List (List Int) × Int × Int × Int × Unit) → Option ((List (List Int) × Unit))} {d : Array EL} {a b : Nat} {l : Int}
theorem pdq_part (hself : PdqCalls self (b - a)) (hb : b ≤ d.size) (hs : d.size < 4294967296) (hl : 0 ≤ l ∧ l ≤ 100)
    {d3 : Array EL} {p : Nat} (P3 : PermIn a b d d3) (B3 : Below ltX a b d3) (hp1 : a ≤ p) (hp2 : p < b) :
    ∃ o, (match partL ((rep d3), (a : Int), (b : Int), (p : Int), ()) with
    | none => none
    | some (y20, y21, y22, _) => match quo? .i64 (IntKind.wrap .i64 ((b : Int) - (a : Int))) (8 : Int) with
      | none => none
      | some x23 => match (ilt (IntKind.wrap .i64 (y21 - (a : Int))) (IntKind.wrap .i64 ((b : Int) - y21))) with
        | true => match self (y20, (a : Int), y21, l, ()) with
          | none => none
          | some (y24, _) => some ((.inl (y24, (IntKind.wrap .i64 (y21 + (1 : Int))), (b : Int), l, (ile x23 (IntKind.wrap .i64 (y21 - (a : Int)))), y22, ())) : PdqOutT)
        | false => match self (y20, (IntKind.wrap .i64 (y21 + (1 : Int))), (b : Int), l, ()) with
          | none => none
          | some (y25, _) => some (.inl (y25, (a : Int), y21, l, (ile x23 (IntKind.wrap .i64 ((b : Int) - y21))), y22, ()))) = some o ∧ PdqOut d a b o := by
  have b3 : b ≤ d3.size := by rw [P3.1]; exact hb
  have s3 : d3.size < 4294967296 := by rw [P3.1]; exact hs
  rw [partL_val d3 a b p hp1 hp2 b3 s3]
  rcases hx : partition ltX d3 a b p with ⟨mid, ap, d4⟩
  obtain ⟨g1, g2, hs4, hBa, hBr, hleft, hright⟩ := round_part swoX (partition_holds _) hp1 hp2 b3 B3 hx
  simp (disch := omega) only [wrap_sub, wrap_add1, quo_8, ilt_nat]
  have b4 : b ≤ d4.size := by omega
  by_cases h : mid - a < b - mid
  · obtain ⟨L, e, l1, l2⟩ := hself d4 a mid l g1 (by omega) (by omega) hl.1 hl.2 hBa (by omega)
    simp only [h, decide_true, e]
    obtain ⟨hBL, hfin⟩ := hleft _ l1 l2
    refine ⟨_, rfl, L, mid + 1, b, rfl, rfl, rfl, hl.1, hl.2, by omega, by rw [l1.1]; exact b4, by rw [l1.1, hs4, P3.1], by omega, hBL, fun R r1 r2 => ?_⟩
    obtain ⟨q1, q2⟩ := hfin R r1 r2
    exact ⟨permIn_trans _ _ _ a b P3 q1, q2⟩
  · obtain ⟨L, e, l1, l2⟩ := hself d4 (mid + 1) b l (by omega) (by omega) (by omega) hl.1 hl.2 hBr (by omega)
    simp only [h, decide_false, e]
    obtain ⟨hBL, hfin⟩ := hright _ l1 l2
    refine ⟨_, rfl, L, a, mid, rfl, rfl, rfl, hl.1, hl.2, by omega, by rw [l1.1]; omega, by rw [l1.1, hs4, P3.1], by omega, hBL, fun R r1 r2 => ?_⟩
    obtain ⟨q1, q2⟩ := hfin R r1 r2
    exact ⟨permIn_trans _ _ _ a b P3 q1, q2⟩

theorem pdq_tail (hself : PdqCalls self (b - a)) (hb : b ≤ d.size) (hs : d.size < 4294967296) (hl : 0 ≤ l ∧ l ≤ 100)
    {d3 : Array EL} {p : Nat} (wb wp : Bool) (P3 : PermIn a b d d3) (B3 : Below ltX a b d3) (hp1 : a ≤ p) (hp2 : p < b) :
    ∃ o, pdqTail self (rep d3) (a : Int) (b : Int) (p : Int) l wb wp = some o ∧ PdqOut d a b o := by
  have b3 : b ≤ d3.size := by rw [P3.1]; exact hb
  have s3 : d3.size < 4294967296 := by rw [P3.1]; exact hs
  rw [pdqTail, ilt_eq]
  by_cases h0 : 0 < a
  · rw [decide_eq_true (by omega)]
    have i0 : a - 1 < d3.size := by omega
    have i1 : p < d3.size := by omega
    simp (disch := omega) only [wrap_sub1, idx_at, dget_at, less_val, less_lt]
    cases hc : ltX d3[a - 1]! d3[p]!
    · simp only [Bool.not_false]
      rw [partEqL_val d3 a b p hp1 hp2 b3 s3]
      rcases hx : partitionEqual ltX d3 a b p with ⟨mid, d4⟩
      obtain ⟨hm1, hm2, hs4, hB4, hfin⟩ := round_eq swoX (partitionEqual_holds _) h0 hp1 hp2 b3 B3 hc hx
      refine ⟨_, rfl, d4, mid, b, rfl, rfl, rfl, hl.1, hl.2, by omega, by omega, by rw [hs4, P3.1], by omega, hB4, fun R r1 r2 => ?_⟩
      obtain ⟨q1, q2⟩ := hfin R r1 r2
      exact ⟨permIn_trans _ _ _ a b P3 q1, q2⟩
    · simp only [Bool.not_true]
      exact pdq_part hself hb hs hl P3 B3 hp1 hp2
  · rw [decide_eq_false (by omega)]
    exact pdq_part hself hb hs hl P3 B3 hp1 hp2

theorem pdq_end (hself : PdqCalls self (b - a)) (hab : a < b) (hb : b ≤ d.size) (hs : d.size < 4294967296) (hl : 0 ≤ l ∧ l ≤ 100)
    {d3 : Array EL} {p : Nat} (h : Int) (wb wp : Bool) (P3 : PermIn a b d d3) (B3 : Below ltX a b d3) (hp1 : a ≤ p) (hp2 : p < b) :
    ∃ o, pdqEnd self (rep d3) (a : Int) (b : Int) (p : Int) h l wb wp = some o ∧ PdqOut d a b o := by
  have b3 : b ≤ d3.size := by rw [P3.1]; exact hb
  have s3 : d3.size < 4294967296 := by rw [P3.1]; exact hs
  unfold pdqEnd
  cases wb
  · exact pdq_tail hself hb hs hl _ _ P3 B3 hp1 hp2
  · cases wp
    · exact pdq_tail hself hb hs hl _ _ P3 B3 hp1 hp2
    · simp only []
      cases ieq h 1
      · exact pdq_tail hself hb hs hl _ _ P3 B3 hp1 hp2
      · simp only []
        rw [partInsL_val d3 a b hab b3 s3]
        obtain ⟨q1, q2⟩ := partialInsertionSort_holds (lt := ltX) swoX d3 a b hab b3 B3
        rcases hx : partialInsertionSort ltX d3 a b with ⟨d4, fin⟩
        rw [hx] at q1 q2
        have P4 : PermIn a b d d4 := permIn_trans _ _ _ a b P3 q1
        cases fin
        · exact pdq_tail hself hb hs hl _ _ P4 (B3.perm b3 q1) hp1 hp2
        · exact ⟨_, rfl, d4, rfl, P4, q2 rfl⟩

theorem pdq_mid (hself : PdqCalls self (b - a)) (hab : a + 8 ≤ b) (hb : b ≤ d.size) (hs : d.size < 4294967296) (hl : 0 ≤ l ∧ l ≤ 100)
    {d3 : Array EL} (wb wp : Bool) (P3 : PermIn a b d d3) (B3 : Below ltX a b d3) :
    ∃ o, pdqMid self (rep d3) (a : Int) (b : Int) l wb wp = some o ∧ PdqOut d a b o := by
  have b3 : b ≤ d3.size := by rw [P3.1]; exact hb
  have s3 : d3.size < 4294967296 := by rw [P3.1]; exact hs
  rw [pdqMid]
  obtain ⟨p, h, e, hp1, hp2⟩ := pivotL_val d3 a b hab b3 s3
  simp only [e]
  cases ieq h 2
  · exact pdq_end hself (by omega) hb hs hl h _ _ P3 B3 hp1 hp2
  · simp only [revL_val d3 a b (by omega) b3 s3]
    have q1 := reverseRange_holds (α := EL) d3 a b (by omega) b3
    simp (disch := omega) only [wrap_sub1, wrap_sub]
    exact pdq_end hself (by omega) hb hs hl 1 _ _ (permIn_trans _ _ _ a b P3 q1) (B3.perm b3 q1) (by omega) (by omega)

theorem pdq_round (hself : PdqCalls self (b - a)) (hab : a ≤ b) (hb : b ≤ d.size) (hs : d.size < 4294967296) (hl : 0 ≤ l ∧ l ≤ 100) (wb wp : Bool) (B : Below ltX a b d) :
    ∃ o, pdqL_s0 self ((rep d), (a : Int), (b : Int), l, wb, wp, ()) = some o ∧ PdqOut d a b o := by
  rw [pdqL_s0_round, pdqRound]
  simp (disch := omega) only [wrap_sub, ile_eq, ieq_eq]
  by_cases h12 : b - a ≤ 12
  · rw [decide_eq_true (show ((b - a : Nat) : Int) ≤ 12 by omega)]
    simp only [insL_val d a b hab hb hs]
    obtain ⟨q1, q2⟩ := insertionSort_holds (lt := ltX) swoX d a b hab hb
    exact ⟨_, rfl, _, rfl, q1, q2⟩
  · rw [decide_eq_false (show ¬ ((b - a : Nat) : Int) ≤ 12 by omega)]
    simp only []
    by_cases h0 : l = 0
    · subst h0
      simp only [BEq.rfl, heapL_val d a b (by omega) hb hs]
      obtain ⟨q1, q2⟩ := heapSort_holds (lt := ltX) swoX d a b hab hb
      exact ⟨_, rfl, _, rfl, q1, q2⟩
    · rw [show (l == 0) = false by simpa using h0]
      simp only []
      cases wb
      · obtain ⟨d', e, q1⟩ := breakL_val d a b hab hb hs
        simp only [Bool.not_false, e]
        rw [wrap_in (by omega)]
        exact pdq_mid hself (by omega) hb hs (by omega) _ _ q1 (B.perm hb q1)
      · simp only [Bool.not_true]
        exact pdq_mid hself (by omega) hb hs hl _ _ (permIn_refl d a b) B
end

theorem pdq_loop {self : (List (List Int) × Int × Int × Int × Unit) → Option ((List (List Int) × Unit))} {m : Nat} (hself : PdqCalls self m) : ∀ (k : Nat) (d : Array EL) (a b : Nat) (l : Int) (wb wp : Bool) (n : Nat), b - a = k → k ≤ m → a ≤ b → b ≤ d.size → d.size < 4294967296 → 0 ≤ l → l ≤ 100 → Below ltX a b d → k < n →
    ∃ R : Array EL, iterO (pdqL_s0 self) n ((rep d), (a : Int), (b : Int), l, wb, wp, ()) = some (.inl ((rep R), ())) ∧ PermIn a b d R ∧ SortedIn ltX a b R := by
  intro k
  induction k using Nat.strongRecOn with
  | _ k ih =>
  intro d a b l wb wp n hk hm hab hb hs hl1 hl2 B hn
  obtain ⟨n, rfl⟩ : ∃ k, n = k + 1 := ⟨n - 1, by omega⟩
  have hself' : PdqCalls self (b - a) := fun d a' b' l h1 h2 h3 h4 h5 h6 h7 => hself d a' b' l h1 h2 h3 h4 h5 h6 (by omega)
  obtain ⟨o, e, ho⟩ := pdq_round hself' hab hb hs ⟨hl1, hl2⟩ wb wp B
  rw [iterO, e]
  match o, ho with
  | .inl (xs, x, y, l', wb', wp', _), ho =>
    obtain ⟨e', i, j, rfl, rfl, rfl, g1, g2, g3, g4, g5, g6, g7, hfin⟩ := ho
    obtain ⟨R, e2, r1, r2⟩ := ih (j - i) (by omega) e' i j l' wb' wp' n rfl (by omega) g3 g4 (by omega) g1 g2 g7 (by omega)
    exact ⟨R, e2, hfin R r1 r2⟩
  | .inr (.inl (xs, _)), ho =>
    obtain ⟨R, rfl, r1, r2⟩ := ho
    exact ⟨R, rfl, r1, r2⟩

theorem pdq_calls : ∀ k : Nat, PdqCalls (pdqL_f (k + 1)) (2 ^ k) := by
  intro k
  have hmany : 4294967296 < many := by simp only [many]; omega
  induction k with
  | zero =>
    intro d a b l h1 h2 h3 h4 h5 h6 h7
    have : PdqCalls (pdqL_f 0) 0 := fun _ _ _ _ _ _ _ _ _ _ h => by omega
    obtain ⟨R, e, r1, r2⟩ := pdq_loop this (b - a) d a b l true true many rfl (by omega) h1 h2 h3 h4 h5 h6 (by omega)
    refine ⟨R, ?_, r1, r2⟩
    rw [pdqL_f, pdqL_d]
    simp only [iterL_eq, e]
  | succ k ih =>
    intro d a b l h1 h2 h3 h4 h5 h6 h7
    have hp : 2 ^ (k + 1) = 2 * 2 ^ k := by rw [Nat.pow_succ]; omega
    obtain ⟨R, e, r1, r2⟩ := pdq_loop ih (b - a) d a b l true true many rfl (by omega) h1 h2 h3 h4 h5 h6 (by omega)
    refine ⟨R, ?_, r1, r2⟩
    rw [pdqL_f, pdqL_d]
    simp only [iterL_eq, e]

/-- what the sort comes to: the same elements, by compare rising -/
theorem sort_val (xs : List (List Int)) (h : xs.length < 4294967296) (hok : ∀ x ∈ xs, ok x) : ∃ ys, sortL (xs, ()) = some (ys, ()) ∧ ys.Perm xs ∧ ys.Pairwise fun x y => lt y x = false := by
  obtain ⟨d, rfl⟩ : ∃ d : Array EL, xs = rep d := by
    refine ⟨(xs.attach.map fun x => ⟨x.val, hok x.val x.property⟩).toArray, ?_⟩
    simp [rep]
  have hl : (rep d).length = d.size := by simp [rep]
  rw [hl] at h
  rw [sortL_eq, sortL_d]
  rw [dlen_at, u64_in (by omega)]
  obtain ⟨v, e, hv, _⟩ := bitsLen_val d.size h
  simp only [e]
  obtain ⟨R, e2, r1, r2⟩ := pdq_calls 99 d 0 d.size (v : Int) (by omega) (by omega) h (by omega) (by omega) (.inl rfl) (by
    have : 2 ^ 99 = 633825300114114700748351602688 := by decide
    omega)
  have e3 : pdqL (rep d, (0 : Int), (d.size : Int), (v : Int), ()) = some (rep R, ()) := by rw [pdqL_eq]; exact e2
  refine ⟨rep R, by simp only [e3], ?_, ?_⟩
  · obtain ⟨hsz, _, hp⟩ := r1
    have e1 : R.extract 0 d.size = R := by rw [← hsz]; exact Array.extract_size
    rw [e1, Array.extract_size] at hp
    exact hp.map _
  · rw [rep, List.pairwise_map, List.pairwise_iff_getElem]
    intro i j hi hj hij
    have hi' : i < R.size := by simpa using hi
    have hj' : j < R.size := by simpa using hj
    have := r2 i j (Nat.zero_le _) hij (by rw [← r1.1]; omega)
    rw [getElem!_pos R j hj', getElem!_pos R i hi'] at this
    simpa [ltX] using this
end Go.Pev.Pl.SL
end
section
/- Rings put among others: by the document one after the other, by the program all, and sorted. -/
namespace Go.Pev.Pl
open Tok

def dropAt {α : Type} (P : Nat → Bool) : Nat → List α → List α
  | _, [] => []
  | i, x :: xs => if P i then dropAt P (i + 1) xs else x :: dropAt P (i + 1) xs
theorem dropAt_none {α : Type} (P : Nat → Bool) : ∀ (xs : List α) (s : Nat), (∀ k, s ≤ k → P k = false) → dropAt P s xs = xs := by
  intro xs
  induction xs with
  | nil => intro s _; rfl
  | cons x xs ih =>
    intro s h
    rw [dropAt, h s (Nat.le_refl _), ih (s + 1) fun k hk => h k (by omega)]
    rfl
theorem dropAt_one {α : Type} (P : Nat → Bool) (i : Nat) : ∀ (xs : List α) (s : Nat), s ≤ i → (∀ k, s ≤ k → P k = decide (k = i)) → dropAt P s xs = xs.eraseIdx (i - s) := by
  intro xs
  induction xs with
  | nil => intro s _ _; rfl
  | cons x xs ih =>
    intro s hs h
    rw [dropAt, h s (Nat.le_refl _)]
    by_cases e : s = i
    · subst e
      rw [dropAt_none P xs (s + 1) fun k hk => by rw [h k (by omega)]; simp; omega]
      simp
    · rw [ih (s + 1) (by omega) fun k hk => h k (by omega)]
      rw [decide_eq_false e, if_neg (by simp), show i - s = (i - (s + 1)) + 1 by omega, List.eraseIdx_cons_succ]
theorem dropAt_two {α : Type} (P : Nat → Bool) (i j : Nat) (hij : i < j) : ∀ (xs : List α) (s : Nat), s ≤ i → (∀ k, s ≤ k → P k = decide (k = i ∨ k = j)) → dropAt P s xs = (xs.eraseIdx (j - s)).eraseIdx (i - s) := by
  intro xs
  induction xs with
  | nil => intro s _ _; rfl
  | cons x xs ih =>
    intro s hs h
    rw [dropAt, h s (Nat.le_refl _)]
    by_cases e : s = i
    · subst e
      rw [dropAt_one P j xs (s + 1) (by omega) fun k hk => by rw [h k (by omega)]; exact decide_eq_decide.2 ⟨fun q => by omega, fun q => .inr q⟩]
      rw [decide_eq_true (.inl rfl), if_pos rfl, show j - s = (j - (s + 1)) + 1 by omega, List.eraseIdx_cons_succ, Nat.sub_self, List.eraseIdx_zero]
      rfl
    · rw [ih (s + 1) (by omega) fun k hk => h k (by omega)]
      rw [decide_eq_false (by omega), if_neg (by simp), show j - s = (j - (s + 1)) + 1 by omega, List.eraseIdx_cons_succ, show i - s = (i - (s + 1)) + 1 by omega, List.eraseIdx_cons_succ]

theorem dropAt_fold {α : Type} (P : Nat → Bool) : ∀ (xs : List α) (acc : List α) (k : Nat), (xs.foldl (fun (a : List α × Nat) x => (if P a.2 then a.1 else a.1 ++ [x], a.2 + 1)) (acc, k)).1 = acc ++ dropAt P k xs := by
  intro xs
  induction xs with
  | nil => intro acc k; simp [dropAt]
  | cons x xs ih =>
    intro acc k
    rw [List.foldl_cons, ih, dropAt]
    cases P k <;> simp

theorem dropAt_len {α : Type} (P : Nat → Bool) : ∀ (xs : List α) (k : Nat), (dropAt P k xs).length ≤ xs.length ∧ ∀ x ∈ dropAt P k xs, x ∈ xs := by
  intro xs
  induction xs with
  | nil => intro k; simp [dropAt]
  | cons x xs ih =>
    intro k
    obtain ⟨h1, h2⟩ := ih (k + 1)
    rw [dropAt]
    split
    · exact ⟨by simp only [List.length_cons]; omega, fun y hy => List.mem_cons_of_mem _ (h2 y hy)⟩
    · refine ⟨by simp only [List.length_cons]; omega, fun y hy => ?_⟩
      rcases List.mem_cons.1 hy with rfl | hy
      · simp
      · exact List.mem_cons_of_mem _ (h2 y hy)

theorem twith_val (n : Int) (rings : List (List Int)) (away : List Int) (come : List (List Int)) (hlen : rings.length < 1073741824) (ha : away.length < 1073741824) (hc : come.length < 1073741824)
    (hne : ∀ l ∈ rings, l ≠ []) (hce : ∀ r ∈ come, plain r ≠ []) :
    ∃ ys, twith ((n, (rings, ())), away, come, ()) = some (n, ys, ()) ∧ ys.Perm (dropAt (fun k => decide ((k : Int) ∈ away)) 0 rings ++ come.map plain) ∧ ys.Pairwise (fun a b => ¬ hd b < hd a) := by
  rw [twith_eq, twith_d]
  have e := walkL (step := twith_s0) (fun i (a : List (List Int) × Nat) => (away, come, n, rings, (0 : Int), a.1, rings, dlen rings, (i : Int), ())) rings
    (fun x a => .inl (if decide ((a.2 : Int) ∈ away) then a.1 else a.1 ++ [x], a.2 + 1)) (fun a => .inl (come, n, rings, (0 : Int), a.1, ())) (fun i a => a.2 = i ∧ a.1.length ≤ i) (by omega)
    (fun i x a hi hx ⟨h1, h2⟩ => by
      refine ⟨fun m' h' => ?_, fun r h' => by cases h'⟩
      cases h'
      subst h1
      rw [twith_s0, dlen_l, ilt_nat, decide_eq_true hi]
      simp only [idx_some hx, containsI_val away _ (show away.length < 9223372036854775808 by omega)]
      rw [wrap_add1 (by omega), fits_l (by simp only [dlen_l, List.length_cons, List.length_nil]; omega)]
      by_cases h : (a.2 : Int) ∈ away
      · simp only [h, decide_true, Bool.not_true, if_true]
        exact ⟨by trivial, by trivial, by omega⟩
      · simp only [h, decide_false, Bool.not_false]
        exact ⟨by trivial, by trivial, by simp; omega⟩)
    (fun a _ => by rw [twith_s0, dlen_l, ilt_nat, decide_eq_false (by omega)]) ([], 0) ⟨rfl, by simp⟩
  have e' : iterL twith_s0 many (away, come, n, rings, (0 : Int), [], rings, dlen rings, (0 : Int), ()) = _ := e
  rw [e', walk_fold]
  have hdf : (rings.foldl (fun (a : List (List Int) × Nat) x => (if decide ((a.2 : Int) ∈ away) then a.1 else a.1 ++ [x], a.2 + 1)) ([], 0)).1 = dropAt (fun k => decide ((k : Int) ∈ away)) 0 rings := by
    have := dropAt_fold (fun k => decide ((k : Int) ∈ away)) rings [] 0
    rw [List.nil_append] at this
    exact this
  simp only [hdf]
  obtain ⟨g1, g2⟩ := dropAt_len (fun k => decide ((k : Int) ∈ away)) rings 0
  generalize dropAt (fun k => decide ((k : Int) ∈ away)) 0 rings = rest at *
  have f := walkL (step := twith_s1) (fun i (a : List (List Int)) => (n, rings, (0 : Int), a, come, dlen come, (i : Int), ())) come
    (fun x a => .inl (a ++ [plain x])) (fun a => .inl (n, rings, (0 : Int), a, ())) (fun i a => a.length = rest.length + i) (by omega)
    (fun i x a hi hx h1 => by
      refine ⟨fun m' h' => ?_, fun r h' => by cases h'⟩
      cases h'
      rw [twith_s1, dlen_l, ilt_nat, decide_eq_true hi]
      simp only [idx_some hx, rplain_val]
      rw [wrap_add1 (by omega), fits_l (by simp only [dlen_l, List.length_cons, List.length_nil]; omega)]
      exact ⟨rfl, by simp; omega⟩)
    (fun a _ => by rw [twith_s1, dlen_l, ilt_nat, decide_eq_false (by omega)]) rest rfl
  have f' : iterL twith_s1 many (n, rings, (0 : Int), rest, come, dlen come, (0 : Int), ()) = _ := f
  rw [f', walk_fold]
  have hfold : ∀ (l acc : List (List Int)), l.foldl (fun a x => a ++ [plain x]) acc = acc ++ l.map plain := by
    intro l
    induction l with
    | nil => intro acc; simp
    | cons x l ih => intro acc; rw [List.foldl_cons, ih]; simp
  simp only [hfold]
  obtain ⟨ys, y1, y2, y3⟩ := SL.sort_val (rest ++ come.map plain) (by simp; omega) (fun x hx => by
    rcases List.mem_append.1 hx with h | h
    · exact hne x (g2 x h)
    · obtain ⟨r, hr, rfl⟩ := List.mem_map.1 h
      exact hce r hr)
  refine ⟨ys, by simp only [y1], y2, y3.imp fun {a b} h => ?_⟩
  simp only [SL.lt, Go.Sort.ltInt, decide_eq_false_iff_not] at h
  exact h

/-- a ring among others, by its first token -/
def putL (rest : List (List Int)) (p : List Int) : List (List Int) := rest.take (rest.findIdx fun x => !decide (hd x < hd p)) ++ p :: rest.drop (rest.findIdx fun x => !decide (hd x < hd p))
theorem putL_perm (rest : List (List Int)) (p : List Int) : (putL rest p).Perm (p :: rest) := by
  rw [putL]
  refine List.perm_middle.trans ?_
  rw [List.take_append_drop]
theorem putL_up {rest : List (List Int)} {p : List Int} (h : rest.Pairwise (fun a b => hd a < hd b)) (hne : ∀ x ∈ rest, hd x ≠ hd p) : (putL rest p).Pairwise (fun a b => hd a < hd b) := by
  rw [putL]
  have hlt : ∀ x ∈ rest.take (rest.findIdx fun x => !decide (hd x < hd p)), hd x < hd p := by
    intro x hx
    obtain ⟨j, hj, e⟩ := List.mem_take_iff_getElem.1 hx
    have := List.not_of_lt_findIdx (p := fun x => !decide (hd x < hd p)) (xs := rest) (i := j) (by omega)
    rw [e] at this
    simpa using this
  have hgt : ∀ x ∈ rest.drop (rest.findIdx fun x => !decide (hd x < hd p)), hd p < hd x := by
    intro x hx
    by_cases hk : (rest.findIdx fun x => !decide (hd x < hd p)) < rest.length
    · have h0 := List.findIdx_getElem (p := fun x => !decide (hd x < hd p)) (xs := rest) (w := hk)
      rw [List.drop_eq_getElem_cons hk] at hx
      have h1 : ¬ hd rest[rest.findIdx fun x => !decide (hd x < hd p)] < hd p := by simpa using h0
      have h2 := hne _ (List.getElem_mem hk)
      rcases List.mem_cons.1 hx with rfl | hx
      · omega
      · have hpw : (rest.drop (rest.findIdx fun x => !decide (hd x < hd p))).Pairwise (fun a b => hd a < hd b) := h.sublist (List.drop_sublist _ _)
        rw [List.drop_eq_getElem_cons hk, List.pairwise_cons] at hpw
        have := hpw.1 x hx
        omega
    · rw [List.drop_of_length_le (by omega)] at hx
      cases hx
  rw [List.pairwise_append, List.pairwise_cons]
  refine ⟨h.sublist (List.take_sublist _ _), ⟨hgt, h.sublist (List.drop_sublist _ _)⟩, fun a ha b hb => ?_⟩
  rcases List.mem_cons.1 hb with rfl | hb
  · exact hlt a ha
  · have := hlt a ha
    have := hgt b hb
    omega

theorem idx0_hd {l : List Int} (h : l ≠ []) : idx l (0 : Int) = some (hd l) := by
  cases l with
  | nil => exact absurd rfl h
  | cons x l => rw [idx_zero]; rfl
theorem dget0_hd (l : List Int) : dget l 0 (0 : Int) = hd l := by cases l <;> rfl

theorem put18_val (rest : List (List Int)) (r : List Int) (hlen : rest.length < 1073741824) (hne : ∀ l ∈ rest, l ≠ []) (hp : plain r ≠ []) : put18 (rest, r, ()) = some (putL rest (plain r), ()) := by
  rw [put18_eq, put18_d]
  simp only [plain13_val]
  generalize plain r = p at *
  have e := findL (step := put18_s0) (fun i => (rest, p, (i : Int), ())) rest (fun x => !decide (hd x < hd p)) (fun i => .inl (rest, p, (i : Int), ())) (.inl (rest, p, (rest.length : Int), ())) (by omega)
    (fun i x hi hx => by
      rw [put18_s0, dlen_l, ilt_nat, decide_eq_true hi]
      simp only [idx_some hx, idx0_hd (hne x (List.mem_of_getElem? hx)), idx0_hd hp, dget0_hd, ilt_eq]
      rw [wrap_add1 (by omega)]
      by_cases h : hd x < hd p
      · rw [decide_eq_true h]; rfl
      · rw [decide_eq_false h]; rfl)
    (by rw [put18_s0, dlen_l, ilt_nat, decide_eq_false (by omega)])
  have e' : iterL put18_s0 many (rest, p, (0 : Int), ()) = _ := e
  have hk : (if rest.any (fun x => !decide (hd x < hd p)) then (.inl (rest, p, ((rest.findIdx fun x => !decide (hd x < hd p) : Nat) : Int), ()) : (List (List Int) × List Int × Int × Unit) ⊕ Unit) else .inl (rest, p, (rest.length : Int), ())) = .inl (rest, p, ((rest.findIdx fun x => !decide (hd x < hd p) : Nat) : Int), ()) := by
    split
    · rfl
    · rename_i h
      rw [List.findIdx_eq_length.2 fun x hx => by
        refine Classical.byContradiction fun hc => h (List.any_eq_true.2 ⟨x, hx, by simpa using hc⟩)]
  rw [e', hk]
  have hle : (rest.findIdx fun x => !decide (hd x < hd p)) ≤ rest.length := List.findIdx_le_length
  rw [putL]
  generalize (rest.findIdx fun x => !decide (hd x < hd p)) = k at *
  simp only [subl_0 hle, subl_end hle]
  rw [fits_l (by simp only [dlen_l, List.length_nil, List.length_take]; omega)]
  simp only []
  rw [fits_l (by simp only [dlen_l, dapp_l, List.length_append, List.length_cons, List.length_nil, List.length_take]; omega)]
  simp only []
  rw [fits_l (by simp only [dlen_l, dapp_l, List.length_append, List.length_cons, List.length_nil, List.length_take, List.length_drop]; omega)]
  simp only [dapp_l, List.nil_append, List.append_assoc, List.singleton_append]

theorem without18_val (l : List (List Int)) (i : Nat) (hi : i < l.length) (hlen : l.length < 1073741824) : without18 (l, (i : Int), ()) = some (l.eraseIdx i, ()) := by
  rw [without18_eq, without18_d]
  rw [wrap_add1 (by omega)]
  simp only [subl_0 (Nat.le_of_lt hi), subl_end (show i + 1 ≤ l.length by omega)]
  rw [fits_l (by simp only [dlen_l, List.length_nil, List.length_take]; omega)]
  simp only []
  rw [fits_l (by simp only [dlen_l, dapp_l, List.length_append, List.length_nil, List.length_take, List.length_drop]; omega)]
  simp only [dapp_l, List.nil_append, List.eraseIdx_eq_take_drop_succ]
end Go.Pev.Pl
end
section
/- Two trees linked, one cut: the program and the document come to the same forest. -/
namespace Go.Pev.Pl
open Tok

def Dom (rings : List (List Int)) : Prop := rings.length < 1073741824 ∧ ∀ l ∈ rings, l.length < 9223372036854775808 ∧ ∀ x ∈ l, -9223372036854775808 ≤ x ∧ x ≤ 9223372036854775807

theorem FR.dom {n : Int} {rings : List (List Int)} (h : FR n rings) : Dom rings := by
  have h1 := RF_iff.2 h
  have h2 := okR_len h.sz.1 h1.2.1 (by omega) (by have := h.sz.1; omega)
  have h3 := h.sz.2
  refine ⟨by omega, fun l hl => ?_⟩
  have := (h.rg l hl).1
  exact ⟨by have := this.1; omega, fun x hx => by have := this.2.1 x hx; omega⟩

theorem hd_mem {l : List Int} (h : l ≠ []) : hd l ∈ l := by
  cases l with
  | nil => exact absurd rfl h
  | cons x l => simp [hd]

theorem arc_ge {n u v : Int} (h : okT n (.arc u v)) : n ≤ arcT n u v := by rw [arcT_enc h]; exact (enc_arc h.1 h.2.1).1

/-- the ring of two linked ones -/
def linkAll (n : Int) (A B : List Int) (u v : Int) : List Int := u :: arcT n u v :: (rotAt B v ++ arcT n v u :: (rotAt A u).tail)

theorem link_ring {n u v : Int} {A B : List Int} (hA : TI n A) (hB : TI n B) (hu : u ∈ A) (hv : v ∈ B) (iu : In n u) (iv : In n v) (hd : Dis n A B) :
    TI n (linkAll n A B u v) ∧ rotAt A u = u :: (rotAt A u).tail ∧ (∀ t, t < n → (t ∈ linkAll n A B u v ↔ t ∈ A ∨ t ∈ B)) ∧ u ≠ v ∧ okT n (.arc u v) := by
  obtain ⟨a, a1, a2, a3⟩ := TI_rotAt hA (t := .ver u) iu hu
  obtain ⟨b, b1, b2, b3⟩ := TI_rotAt hB (t := .ver v) iv hv
  have a1' : rotAt A u = (Tok.ver u :: a).map (encT n) := a1
  have b1' : rotAt B v = (Tok.ver v :: b).map (encT n) := b1
  have huv : u ≠ v := by rintro rfl; exact hd u hu iu.2.2.2 hv
  have ho : okT n (.arc u v) := ⟨iu, iv, huv⟩
  have pA := (rotAt_irot hu).perm
  have pB := (rotAt_irot hv).perm
  have ht : rotAt A u = u :: (rotAt A u).tail := by rw [a1']; rfl
  have hall : linkAll n A B u v = (Tok.ver u :: .arc u v :: (.ver v :: b ++ .arc v u :: a)).map (encT n) := by
    rw [linkAll, a1', b1', arcT_enc ho, arcT_enc (okT_swap ho)]
    simp [encT]
  refine ⟨⟨_, hall, fun t ht => ?_, T.join a2 b2 fun x hx hx2 => ?_⟩, ht, fun t ht2 => ?_, huv, ho⟩
  · rcases List.mem_cons.1 ht with rfl | ht
    · exact iu
    · rcases List.mem_cons.1 ht with rfl | ht
      · exact ho
      · rcases List.mem_append.1 ht with ht | ht
        · exact b3 t ht
        · rcases List.mem_cons.1 ht with rfl | ht
          · exact okT_swap ho
          · exact a3 t (List.mem_cons_of_mem _ ht)
  · have ix := a3 _ hx
    have x1 : x ∈ A := pA.mem_iff.2 (by rw [a1']; exact List.mem_map.2 ⟨_, hx, rfl⟩)
    have x2 : x ∈ B := pB.mem_iff.2 (by rw [b1']; exact List.mem_map.2 ⟨_, hx2, rfl⟩)
    exact hd x x1 ix.2.2.2 x2
  · have g1 := arc_ge ho
    have g2 := arc_ge (okT_swap ho)
    have e1 : t ∈ A ↔ t = u ∨ t ∈ (rotAt A u).tail := by rw [pA.mem_iff, ht, List.mem_cons, List.tail_cons]
    rw [linkAll, List.mem_cons, List.mem_cons, List.mem_append, List.mem_cons, e1, ← pB.mem_iff]
    constructor
    · rintro (h | h | h | h | h)
      · exact .inl (.inl h)
      · omega
      · exact .inr h
      · omega
      · exact .inl (.inr h)
    · rintro ((h | h) | h)
      · exact .inl h
      · exact .inr (.inr (.inr (.inr h)))
      · exact .inr (.inr (.inl h))

theorem dis_perm {n : Int} {a b : List (List Int)} (h : a.Perm b) (ha : a.Pairwise (Dis n)) : b.Pairwise (Dis n) := (h.pairwise_iff fun {_ _} hh => hh.symm).1 ha

theorem FR_link {n : Int} {rings rest zs : List (List Int)} {A B p : List Int} (h : FR n rings) (hp : rings.Perm (A :: B :: rest)) (hg : RG n p) (hm : ∀ t, t < n → (t ∈ p ↔ t ∈ A ∨ t ∈ B)) (hz : zs.Perm (p :: rest)) (hu : zs.Pairwise (fun a b => hd a < hd b)) : FR n zs := by
  have hd0 := dis_perm hp h.dis
  rw [List.pairwise_cons, List.pairwise_cons] at hd0
  obtain ⟨h1, h2, h3⟩ := hd0
  refine ⟨h.sz, fun l hl => ?_, hu, dis_perm hz.symm ?_, fun v hv => ?_⟩
  · rcases List.mem_cons.1 (hz.mem_iff.1 hl) with rfl | hl
    · exact hg
    · exact h.rg l (hp.mem_iff.2 (by simp [hl]))
  · rw [List.pairwise_cons]
    refine ⟨fun r hr t ht htn => ?_, h3⟩
    rcases (hm t htn).1 ht with g | g
    · exact h1 r (by simp [hr]) t g htn
    · exact h2 r hr t g htn
  · obtain ⟨l, hl, hvl⟩ := h.cov v hv
    have := hp.mem_iff.1 hl
    simp only [List.mem_cons] at this
    rcases this with rfl | rfl | g
    · exact ⟨p, hz.mem_iff.2 (by simp), (hm v hv.2.2.2).2 (.inl hvl)⟩
    · exact ⟨p, hz.mem_iff.2 (by simp), (hm v hv.2.2.2).2 (.inr hvl)⟩
    · exact ⟨l, hz.mem_iff.2 (by simp [g]), hvl⟩

theorem FR_cut {n : Int} {rings rest zs : List (List Int)} {A p q : List Int} (h : FR n rings) (hp : rings.Perm (A :: rest)) (hg : RG n p) (hg2 : RG n q) (hpq : Dis n p q) (hm : ∀ t, t < n → (t ∈ A ↔ t ∈ p ∨ t ∈ q)) (hz : zs.Perm (p :: q :: rest)) (hu : zs.Pairwise (fun a b => hd a < hd b)) : FR n zs := by
  have hd0 := dis_perm hp h.dis
  rw [List.pairwise_cons] at hd0
  obtain ⟨h1, h3⟩ := hd0
  refine ⟨h.sz, fun l hl => ?_, hu, dis_perm hz.symm ?_, fun v hv => ?_⟩
  · have := hz.mem_iff.1 hl
    simp only [List.mem_cons] at this
    rcases this with rfl | rfl | hl
    · exact hg
    · exact hg2
    · exact h.rg l (hp.mem_iff.2 (by simp [hl]))
  · rw [List.pairwise_cons, List.pairwise_cons]
    refine ⟨fun r hr t ht htn => ?_, fun r hr t ht htn => h1 r hr t ((hm t htn).2 (.inr ht)) htn, h3⟩
    rcases List.mem_cons.1 hr with rfl | hr
    · exact hpq t ht htn
    · exact h1 r hr t ((hm t htn).2 (.inl ht)) htn
  · obtain ⟨l, hl, hvl⟩ := h.cov v hv
    have := hp.mem_iff.1 hl
    simp only [List.mem_cons] at this
    rcases this with rfl | g
    · rcases (hm v hv.2.2.2).1 hvl with g | g
      · exact ⟨p, hz.mem_iff.2 (by simp), g⟩
      · exact ⟨q, hz.mem_iff.2 (by simp), g⟩
    · exact ⟨l, hz.mem_iff.2 (by simp [g]), hvl⟩

/-- who is asked -/
theorem asked_val (n : Int) (rings : List (List Int)) (u v : Int) (hD : Dom rings) : asked ((n, (rings, ())), u, v, ()) = some (if RF n rings then if In n u ∧ In n v then 0 else 10 else 1, ()) := by
  rw [asked_eq, asked_d]
  simp only [tright_val n rings hD.1 hD.2, tin_val]
  by_cases h : RF n rings
  · by_cases h1 : In n u
    · by_cases h2 : In n v <;> simp [h, h1, h2]
    · simp [h, h1]
  · simp [h]

theorem imax_nat (a b : Nat) : imax (a : Int) (b : Int) = ((max a b : Nat) : Int) := by rw [imax]; split <;> omega
theorem imin_nat (a b : Nat) : imin (a : Int) (b : Int) = ((min a b : Nat) : Int) := by rw [imin]; split <;> omega

/-- both are linked: the forest is the same -/
theorem link_ok {n : Int} {rings : List (List Int)} {u v : Int} {i j : Nat} {A B : List Int} (h : FR n rings) (iu : In n u) (iv : In n v) (hi : rings[i]? = some A) (hj : rings[j]? = some B) (hu : u ∈ A) (hv : v ∈ B) (hij : i ≠ j) :
    ∃ zs rest, tlink ((n, (rings, ())), u, v, ()) = some (n, zs, 0, ()) ∧ link18 ((n, (rings, ())), u, v, ()) = some (n, zs, 0, ()) ∧ FR n zs ∧ rings.Perm (A :: B :: rest) ∧ zs.Perm (plain (linkAll n A B u v) :: rest) ∧ Dis n A B := by
  have hD := h.dom
  have hRF := RF_iff.2 h
  have rA := h.rg A (List.mem_of_getElem? hi)
  have rB := h.rg B (List.mem_of_getElem? hj)
  have hil := (List.getElem?_eq_some_iff.1 hi).1
  have hjl := (List.getElem?_eq_some_iff.1 hj).1
  have pu : plc rings u = (i : Int) := h.plc_eq hi iu.2.2.2 hu
  have pv : plc rings v = (j : Int) := h.plc_eq hj iv.2.2.2 hv
  have hperm : rings.Perm (A :: B :: (rings.eraseIdx (max i j)).eraseIdx (min i j)) := by
    rcases Nat.lt_or_gt_of_ne hij with g | g
    · rw [Nat.max_eq_right (by omega), Nat.min_eq_left (by omega)]
      exact erase2_perm g hi hj
    · rw [Nat.max_eq_left (by omega), Nat.min_eq_right (by omega)]
      exact (erase2_perm g hj hi).trans (List.Perm.swap _ _ _)
  have hdis : Dis n A B := by
    have := dis_perm hperm h.dis
    rw [List.pairwise_cons] at this
    exact this.1 B (by simp)
  obtain ⟨l1, l2, l3, huv, ho⟩ := link_ring rA.2.2.2 rB.2.2.2 hu hv iu iv hdis
  obtain ⟨hRG, hrot⟩ := RG_plain l1
  have hall : linkAll n A B u v = u :: arcT n u v :: (rotAt B v ++ arcT n v u :: (rotAt A u).tail) := rfl
  have lA : (rotAt A u).length ≤ 1000 := by rw [← (rotAt_irot hu).perm.length_eq]; exact rA.1.1
  have lB : (rotAt B v).length ≤ 1000 := by rw [← (rotAt_irot hv).perm.length_eq]; exact rB.1.1
  have hsub : ((rings.eraseIdx (max i j)).eraseIdx (min i j)).Sublist rings := (List.eraseIdx_sublist _ _).trans (List.eraseIdx_sublist _ _)
  have hw1 : without18 (rings, ((max i j : Nat) : Int), ()) = some (rings.eraseIdx (max i j), ()) := without18_val _ _ (by omega) hD.1
  have hel : (rings.eraseIdx (max i j)).length = rings.length - 1 := by rw [List.length_eraseIdx]; rw [if_pos (by omega)]
  have hw2 : without18 (rings.eraseIdx (max i j), ((min i j : Nat) : Int), ()) = some ((rings.eraseIdx (max i j)).eraseIdx (min i j), ()) := without18_val _ _ (by omega) (by have := hD.1; omega)
  have hdrop : dropAt (fun k => decide ((k : Int) ∈ [(i : Int), (j : Int)])) 0 rings = (rings.eraseIdx (max i j)).eraseIdx (min i j) := by
    rcases Nat.lt_or_gt_of_ne hij with g | g
    · rw [Nat.max_eq_right (by omega), Nat.min_eq_left (by omega)]
      exact dropAt_two _ i j g rings 0 (by omega) fun k _ => decide_eq_decide.2 (by simp only [List.mem_cons, List.not_mem_nil, or_false]; omega)
    · rw [Nat.max_eq_left (by omega), Nat.min_eq_right (by omega)]
      exact dropAt_two _ j i g rings 0 (by omega) fun k _ => decide_eq_decide.2 (by simp only [List.mem_cons, List.not_mem_nil, or_false]; omega)
  have hrl : ((rings.eraseIdx (max i j)).eraseIdx (min i j)).length ≤ rings.length := hsub.length_le
  generalize (rings.eraseIdx (max i j)).eraseIdx (min i j) = rest at *
  have hupr : rest.Pairwise (fun a b => hd a < hd b) := h.up.sublist hsub
  have hner : ∀ l ∈ rest, l ≠ [] := fun l hl => (h.rg l (hsub.subset hl)).2.1
  have hdd := dis_perm hperm h.dis
  rw [List.pairwise_cons, List.pairwise_cons] at hdd
  have hheads : ∀ x ∈ rest, hd x ≠ hd (plain (linkAll n A B u v)) := by
    intro x hx e
    have g1 := RG_head hRG
    have g2 := (l3 _ g1.2.2.2).1 (hrot.perm.mem_iff.2 (hd_mem hRG.2.1))
    have g3 : hd (plain (linkAll n A B u v)) ∈ x := e ▸ hd_mem (hner x hx)
    rcases g2 with g | g
    · exact hdd.1 x (by simp [hx]) _ g g1.2.2.2 g3
    · exact hdd.2.1 x hx _ g g1.2.2.2 g3
  have hup := putL_up hupr hheads
  have hpz := putL_perm rest (plain (linkAll n A B u v))
  refine ⟨putL rest (plain (linkAll n A B u v)), rest, ?_, ?_, FR_link h hperm hRG (fun t ht => by rw [← hrot.perm.mem_iff]; exact l3 t ht) hpz hup, hperm, hpz, hdis⟩
  · obtain ⟨ys, y1, y2, y3⟩ := twith_val n rings [(i : Int), (j : Int)] [linkAll n A B u v] hD.1 (by simp) (by simp) (fun l hl => (h.rg l hl).2.1) (by simp; exact hRG.2.1)
    have hys : ys = putL rest (plain (linkAll n A B u v)) := by
      refine sorted_same hup (y2.trans ?_) y3
      rw [hdrop]
      exact (List.perm_append_comm (l₁ := rest) (l₂ := [plain (linkAll n A B u v)])).trans hpz.symm
    rw [hys] at y1
    rw [tlink_eq, tlink_d]
    have s1 : subl (rotAt A u) (0 : Int) (1 : Int) = some [u] := by
      have := subl_l (xs := rotAt A u) (l := 0) (h := 1) (by omega) (by rw [l2]; simp)
      rw [l2] at this ⊢
      exact this
    have s2 : subl (rotAt A u) (1 : Int) (dlen (rotAt A u)) = some (rotAt A u).tail := by
      have := subl_end (xs := rotAt A u) (l := 1) (by rw [l2]; simp)
      rw [List.drop_one] at this
      exact this
    have d1 : dcut 0 (dnat (dlen [u])) (rotAt A u) = [u] := by rw [l2]; rfl
    have d2 : dcut 1 (dnat (dlen (rotAt A u).tail)) (rotAt A u) = (rotAt A u).tail := by
      rw [dcut, dlen_l, dnat_l, List.drop_one, List.take_length]
    have hcat : concatI ([[u], [arcT n u v], rotAt B v, [arcT n v u], (rotAt A u).tail], ()) = some (linkAll n A B u v, ()) := by
      rw [concatI_val _ (by simp) (by simp; omega)]
      simp [linkAll]
    have ne : ((i : Int)) ≠ (j : Int) := by omega
    simp only [asked_val n rings u v hD, hRF, iu, iv, and_self, if_true, ieq_dec, tplace_val n rings _ hD.1 (fun l hl => (hD.2 l hl).1), pu, pv, ne, decide_true, decide_false, Bool.not_true, idx_some hi, idx_some hj, rfrom_val, fromOut, rA.1, rB.1, hu, hv, s1, s2, tarc_val, d1, d2, hcat, y1]
  · rw [link18_eq, link18_d]
    have s2 : subl (rotAt A u) (1 : Int) (dlen (rotAt A u)) = some (rotAt A u).tail := by
      have := subl_end (xs := rotAt A u) (l := 1) (by rw [l2]; simp)
      rw [List.drop_one] at this
      exact this
    have d2 : dcut 1 (dnat (dlen (rotAt A u).tail)) (rotAt A u) = (rotAt A u).tail := by
      rw [dcut, dlen_l, dnat_l, List.drop_one, List.take_length]
    have ne : ((i : Int)) ≠ (j : Int) := by omega
    have f1 : fits (dlen [u, arcT n u v] + dlen (rotAt B v)) = true := fits_l (by simp only [dlen_l, List.length_cons, List.length_nil]; omega)
    have f2 : fits (dlen (dapp [u, arcT n u v] (rotAt B v)) + dlen [arcT n v u]) = true := fits_l (by simp only [dlen_l, dapp_l, List.length_append, List.length_cons, List.length_nil]; omega)
    have f3 : fits (dlen (dapp (dapp [u, arcT n u v] (rotAt B v)) [arcT n v u]) + dlen (rotAt A u).tail) = true := fits_l (by simp only [dlen_l, dapp_l, List.length_append, List.length_cons, List.length_nil, List.length_tail]; omega)
    have hcat : dapp (dapp (dapp [u, arcT n u v] (rotAt B v)) [arcT n v u]) (rotAt A u).tail = linkAll n A B u v := by simp [dapp_l, linkAll]
    have hput : put18 (rest, linkAll n A B u v, ()) = some (putL rest (plain (linkAll n A B u v)), ()) := put18_val rest _ (by have := hD.1; omega) hner hRG.2.1
    simp only [right18_val n rings hD.1 hD.2, hRF, in18_val, iu, iv, decide_true, Bool.not_true, place18_val n rings _ hD.1 (fun l hl => (hD.2 l hl).1), pu, pv, ieq_dec, ne, decide_false, idx_some hi, idx_some hj, from13_val A u (by have := rA.1.1; omega), from13_val B v (by have := rB.1.1; omega), fromOut, rA.1, rB.1, hu, hv, and_self, if_true, arc18_val, f1, f2, s2, d2, f3, imax_nat, imin_nat, hw1, hw2, hcat, hput]
end Go.Pev.Pl
end
section
/- A tree that is cut: the program and the document come to the same forest. -/
namespace Go.Pev.Pl
open Tok

theorem pos_eq {xs a b : List Int} {t : Int} (h : xs = a ++ t :: b) (ha : t ∉ a) : pos xs t = (a.length : Int) := by
  obtain ⟨k, e, hk, hg, h1, h2⟩ := pos_in (xs := xs) (t := t) (by rw [h]; simp)
  obtain ⟨q1, q2⟩ := split_uniq (h.symm.trans h1) ha h2
  rw [e]
  have := congrArg List.length q1
  rw [List.length_take] at this
  omega

/-- a ring that is cut: what lies within, and what lies without -/
theorem cut_ring {n u v : Int} {A : List Int} (hA : TI n A) (ht : arcT n u v ∈ A) (hpos : 0 ≤ arcT n u v) :
    ∃ p q, rotAt A (arcT n u v) = arcT n u v :: (p ++ arcT n v u :: q) ∧ arcT n v u ∉ p ∧ arcT n v u ≠ arcT n u v ∧ TI n p ∧ TI n q ∧ v ∈ p ∧ u ∈ q ∧ Dis n p q ∧ (∀ t, t < n → (t ∈ A ↔ t ∈ p ∨ t ∈ q)) ∧ okT n (.arc u v) := by
  have ho : okT n (.arc u v) := by
    rcases arcT_cases n u v with h | h
    · exact h.1
    · omega
  have hrt := (rotAt_irot ht).perm
  rw [arcT_enc ho] at ht hrt
  obtain ⟨r, r1, r2, r3⟩ := TI_rotAt hA ho ht
  obtain ⟨_, _, f3⟩ := r2.facts
  have hr : Tok.arc v u ∈ r := by
    have := (f3 u v (by simp)).2.2.1
    rcases List.mem_cons.1 this with h | h
    · cases h; exact absurd rfl ho.2.2
    · exact h
  obtain ⟨P, Q, rfl⟩ := List.append_of_mem hr
  have hn := r2.nodup
  have hn' := hn
  rw [List.nodup_cons, List.nodup_append, List.nodup_cons (a := Tok.arc v u)] at hn'
  obtain ⟨tP, vP⟩ := T.split r2
  have r2' : T (.arc v u :: (Q ++ .arc u v :: P)) := r2.of_rot ⟨.arc u v :: P, .arc v u :: Q, by simp, by simp⟩
  obtain ⟨tQ, uQ⟩ := T.split r2'
  have oP : ∀ t ∈ P, okT n t := fun t ht => r3 t (by simp [ht])
  have oQ : ∀ t ∈ Q, okT n t := fun t ht => r3 t (by simp [ht])
  have hs := okT_swap ho
  refine ⟨P.map (encT n), Q.map (encT n), by rw [arcT_enc ho, arcT_enc hs, r1]; simp, ?_, ?_, ⟨P, rfl, oP, tP⟩, ⟨Q, rfl, oQ, tQ⟩, List.mem_map.2 ⟨_, vP, rfl⟩, List.mem_map.2 ⟨_, uQ, rfl⟩, fun t h1 h2 h3 => ?_, fun t htn => ?_, ho⟩
  · rw [arcT_enc hs, mem_enc oP hs]
    intro h
    exact hn'.2.2.2 _ h _ (by simp) rfl
  · rw [arcT_enc ho, arcT_enc hs]
    intro e
    have := enc_inj hs ho e
    cases this
    exact ho.2.2 rfl
  · obtain ⟨x, hx, e⟩ := List.mem_map.1 h1
    obtain ⟨y, hy, e2⟩ := List.mem_map.1 h3
    have := enc_inj (oP x hx) (oQ y hy) (by rw [e, e2])
    subst this
    exact hn'.2.2.2 x hx x (by simp [hy]) rfl
  · rw [hrt.mem_iff, r1]
    have g1 := arc_ge ho
    have g2 := arc_ge hs
    rw [arcT_enc ho] at g1
    rw [arcT_enc hs] at g2
    simp only [List.map_cons, List.map_append, List.mem_cons, List.mem_append]
    constructor
    · rintro (h | h | h | h)
      · omega
      · exact .inl h
      · omega
      · exact .inr h
    · rintro (h | h)
      · exact .inr (.inl h)
      · exact .inr (.inr (.inr h))

theorem cut_none {n : Int} {rings : List (List Int)} {u v : Int} {i : Nat} {A : List Int} (h : FR n rings) (iu : In n u) (iv : In n v) (hi : rings[i]? = some A) (hu : u ∈ A) (ht : arcT n u v ∉ A) :
    tcut ((n, (rings, ())), u, v, ()) = some (n, rings, 6, ()) ∧ cut18 ((n, (rings, ())), u, v, ()) = some (n, rings, 6, ()) := by
  have hD := h.dom
  have hRF := RF_iff.2 h
  have rA := h.rg A (List.mem_of_getElem? hi)
  have pu : plc rings u = (i : Int) := h.plc_eq hi iu.2.2.2 hu
  constructor
  · rw [tcut_eq, tcut_d]
    simp only [asked_val n rings u v hD, hRF, iu, iv, and_self, if_true, ieq_dec, tplace_val n rings _ hD.1 (fun l hl => (hD.2 l hl).1), pu, decide_true, Bool.not_true, idx_some hi, rfrom_val, fromOut, tarc_val, ht, and_false, if_false, Bool.not_false]
  · rw [cut18_eq, cut18_d]
    simp only [right18_val n rings hD.1 hD.2, hRF, in18_val, iu, iv, decide_true, Bool.not_true, place18_val n rings _ hD.1 (fun l hl => (hD.2 l hl).1), pu, idx_some hi, from13_val A _ (show A.length < 9223372036854775808 by have := rA.1.1; omega), fromOut, arc18_val, ht, and_false, if_false, Bool.not_false]


theorem cut_ok {n : Int} {rings : List (List Int)} {u v : Int} {i : Nat} {A : List Int} (h : FR n rings) (iu : In n u) (iv : In n v) (hi : rings[i]? = some A) (hu : u ∈ A) (ht : arcT n u v ∈ A) :
    ∃ zs rest p q, tcut ((n, (rings, ())), u, v, ()) = some (n, zs, 0, ()) ∧ cut18 ((n, (rings, ())), u, v, ()) = some (n, zs, 0, ()) ∧ FR n zs ∧ rings.Perm (A :: rest) ∧ zs.Perm (plain p :: plain q :: rest) ∧
      rotAt A (arcT n u v) = arcT n u v :: (p ++ arcT n v u :: q) ∧ TI n p ∧ TI n q ∧ v ∈ p ∧ u ∈ q ∧ Dis n p q ∧ (∀ t, t < n → (t ∈ A ↔ t ∈ p ∨ t ∈ q)) ∧ okT n (.arc u v) := by
  have hD := h.dom
  have hRF := RF_iff.2 h
  have rA := h.rg A (List.mem_of_getElem? hi)
  have hil := (List.getElem?_eq_some_iff.1 hi).1
  have pu : plc rings u = (i : Int) := h.plc_eq hi iu.2.2.2 hu
  obtain ⟨p, q, c1, c2, c3, tp, tq, vp, uq, hdis, hmem, ho⟩ := cut_ring rA.2.2.2 ht (rA.1.2.1 _ ht).1
  obtain ⟨gp, ip⟩ := RG_plain tp
  obtain ⟨gq, iq⟩ := RG_plain tq
  have lA : (rotAt A (arcT n u v)).length ≤ 1000 := by rw [← (rotAt_irot ht).perm.length_eq]; exact rA.1.1
  have hdis2 : Dis n (plain p) (plain q) := fun t h1 h2 h3 => hdis t (ip.perm.mem_iff.2 h1) h2 (iq.perm.mem_iff.2 h3)
  have hmem2 : ∀ t, t < n → (t ∈ A ↔ t ∈ plain p ∨ t ∈ plain q) := fun t htn => by rw [hmem t htn, ip.perm.mem_iff, iq.perm.mem_iff]
  have hperm : rings.Perm (A :: rings.eraseIdx i) := erase_perm hi
  have hsub : (rings.eraseIdx i).Sublist rings := List.eraseIdx_sublist _ _
  have hw1 : without18 (rings, (i : Int), ()) = some (rings.eraseIdx i, ()) := without18_val _ _ hil hD.1
  have hdrop : dropAt (fun k => decide ((k : Int) ∈ [(i : Int)])) 0 rings = rings.eraseIdx i := dropAt_one _ i rings 0 (by omega) fun k _ => decide_eq_decide.2 (by simp only [List.mem_cons, List.not_mem_nil, or_false]; omega)
  have hrl : (rings.eraseIdx i).length ≤ rings.length := hsub.length_le
  generalize rings.eraseIdx i = rest at *
  have hupr : rest.Pairwise (fun a b => hd a < hd b) := h.up.sublist hsub
  have hner : ∀ l ∈ rest, l ≠ [] := fun l hl => (h.rg l (hsub.subset hl)).2.1
  have hdd := dis_perm hperm h.dis
  rw [List.pairwise_cons] at hdd
  have hh1 : ∀ x ∈ rest, hd x ≠ hd (plain p) := by
    intro x hx e
    have g1 := RG_head gp
    exact hdd.1 x hx _ ((hmem2 _ g1.2.2.2).2 (.inl (hd_mem gp.2.1))) g1.2.2.2 (by have := hd_mem (hner x hx); rw [e] at this; exact this)
  have hup1 := putL_up hupr hh1
  have hpz1 := putL_perm rest (plain p)
  have hh2 : ∀ x ∈ putL rest (plain p), hd x ≠ hd (plain q) := by
    intro x hx e
    have g1 := RG_head gq
    rcases List.mem_cons.1 (hpz1.mem_iff.1 hx) with rfl | hx
    · exact hdis2 _ (by have := hd_mem gp.2.1; rw [e] at this; exact this) g1.2.2.2 (hd_mem gq.2.1)
    · exact hdd.1 x hx _ ((hmem2 _ g1.2.2.2).2 (.inr (hd_mem gq.2.1))) g1.2.2.2 (by have := hd_mem (hner x hx); rw [e] at this; exact this)
  have hup := putL_up hup1 hh2
  have hpz : (putL (putL rest (plain p)) (plain q)).Perm (plain p :: plain q :: rest) := (putL_perm _ _).trans ((hpz1.cons _).trans (List.Perm.swap _ _ _))
  have hk : pos (rotAt A (arcT n u v)) (arcT n v u) = ((p.length + 1 : Nat) : Int) := pos_eq (a := arcT n u v :: p) (b := q) (by rw [c1]; rfl) (by
    intro hm
    rcases List.mem_cons.1 hm with e | e
    · exact c3 e
    · exact c2 e)
  have s1 : subl (rotAt A (arcT n u v)) (1 : Int) ((p.length + 1 : Nat) : Int) = some p := by
    have := subl_l (xs := rotAt A (arcT n u v)) (l := 1) (h := p.length + 1) (by omega) (by rw [c1]; simp)
    rw [c1] at this ⊢
    rw [show (arcT n u v :: (p ++ arcT n v u :: q)).take (p.length + 1) = arcT n u v :: p by rw [List.take_succ_cons, List.take_left' rfl]] at this
    exact this
  have hdr : (rotAt A (arcT n u v)).drop (p.length + 2) = q := by
    rw [c1, show p.length + 2 = (p.length + 1) + 1 by omega, List.drop_succ_cons, ← List.drop_drop, List.drop_left' rfl]
    rfl
  have s2 : subl (rotAt A (arcT n u v)) ((p.length + 2 : Nat) : Int) (dlen (rotAt A (arcT n u v))) = some q := by
    rw [subl_end (by rw [c1]; simp), hdr]
  have d1 : dcut 1 (dnat (dlen p)) (rotAt A (arcT n u v)) = p := by
    rw [dcut, dlen_l, dnat_l, c1, List.drop_one, List.tail_cons, List.take_left' rfl]
  have d2 : dcut (dnat ((p.length + 2 : Nat) : Int)) (dnat (dlen q)) (rotAt A (arcT n u v)) = q := by
    rw [dcut, dlen_l, dnat_l, dnat_l, hdr, List.take_length]
  have w1 : IntKind.wrap .i64 (((p.length + 1 : Nat) : Int) + 1) = ((p.length + 2 : Nat) : Int) := wrap_add1 (by rw [c1] at lA; simp at lA; omega)
  refine ⟨putL (putL rest (plain p)) (plain q), rest, p, q, ?_, ?_, FR_cut h hperm gp gq hdis2 hmem2 hpz hup, hperm, hpz, c1, tp, tq, vp, uq, hdis, hmem, ho⟩
  · obtain ⟨ys, y1, y2, y3⟩ := twith_val n rings [(i : Int)] [p, q] hD.1 (by simp) (by simp) (fun l hl => (h.rg l hl).2.1) (by
      intro r hr
      simp only [List.mem_cons, List.not_mem_nil, or_false] at hr
      rcases hr with rfl | rfl
      · exact gp.2.1
      · exact gq.2.1)
    have hys : ys = putL (putL rest (plain p)) (plain q) := by
      refine sorted_same hup (y2.trans ?_) y3
      rw [hdrop]
      exact (List.perm_append_comm (l₁ := rest) (l₂ := [plain p, plain q])).trans hpz.symm
    rw [hys] at y1
    rw [tcut_eq, tcut_d]
    simp only [asked_val n rings u v hD, hRF, iu, iv, and_self, if_true, ieq_dec, tplace_val n rings _ hD.1 (fun l hl => (hD.2 l hl).1), pu, decide_true, Bool.not_true, idx_some hi, rfrom_val, fromOut, rA.1, ht, tarc_val, indexI_val _ _ (show (rotAt A (arcT n u v)).length < 9223372036854775808 by omega), hk, s1, w1, s2, d1, d2, y1]
  · rw [cut18_eq, cut18_d]
    have hput1 : put18 (rest, p, ()) = some (putL rest (plain p), ()) := put18_val rest _ (by have := hD.1; omega) hner gp.2.1
    have hput2 : put18 (putL rest (plain p), q, ()) = some (putL (putL rest (plain p)) (plain q), ()) := put18_val _ _ (by rw [hpz1.length_eq]; have := hD.1; have := hperm.length_eq; simp only [List.length_cons] at this ⊢; omega) (fun l hl => by
      rcases List.mem_cons.1 (hpz1.mem_iff.1 hl) with rfl | hl
      · exact gp.2.1
      · exact hner l hl) gq.2.1
    simp only [right18_val n rings hD.1 hD.2, hRF, in18_val, iu, iv, decide_true, Bool.not_true, place18_val n rings _ hD.1 (fun l hl => (hD.2 l hl).1), pu, idx_some hi, from13_val A _ (show A.length < 9223372036854775808 by have := rA.1.1; omega), fromOut, rA.1, ht, and_self, if_true, arc18_val, place13_val _ _ (show (rotAt A (arcT n u v)).length < 9223372036854775808 by omega), hk, hw1, s1, d1, hput1, w1, s2, d2, hput2]

/-- what both answer where they refuse -/
theorem link_refused {n : Int} {rings : List (List Int)} {u v : Int} (hD : Dom rings) (h : ¬ (RF n rings ∧ In n u ∧ In n v)) :
    ∃ e, e ≠ 0 ∧ (∃ b, e = b ∧ (b = 1 ∨ b = 10)) ∧ tlink ((n, (rings, ())), u, v, ()) = some (n, rings, e, ()) ∧ link18 ((n, (rings, ())), u, v, ()) = some (n, rings, e, ()) ∧ tcut ((n, (rings, ())), u, v, ()) = some (n, rings, e, ()) ∧ cut18 ((n, (rings, ())), u, v, ()) = some (n, rings, e, ()) := by
  by_cases h1 : RF n rings
  · have h2 : ¬ (In n u ∧ In n v) := fun h2 => h ⟨h1, h2⟩
    refine ⟨10, by omega, ⟨10, rfl, .inr rfl⟩, ?_, ?_, ?_, ?_⟩
    · rw [tlink_eq, tlink_d]
      simp only [asked_val n rings u v hD, h1, h2, if_true, if_false, ieq_dec]
      rfl
    · rw [link18_eq, link18_d]
      simp only [right18_val n rings hD.1 hD.2, h1, in18_val, decide_true, Bool.not_true]
      by_cases hu : In n u
      · have hv : ¬ In n v := fun hv => h2 ⟨hu, hv⟩
        simp [hu, hv]
      · simp [hu]
    · rw [tcut_eq, tcut_d]
      simp only [asked_val n rings u v hD, h1, h2, if_true, if_false, ieq_dec]
      rfl
    · rw [cut18_eq, cut18_d]
      simp only [right18_val n rings hD.1 hD.2, h1, in18_val, decide_true, Bool.not_true]
      by_cases hu : In n u
      · have hv : ¬ In n v := fun hv => h2 ⟨hu, hv⟩
        simp [hu, hv]
      · simp [hu]
  · refine ⟨1, by omega, ⟨1, rfl, .inl rfl⟩, ?_, ?_, ?_, ?_⟩
    · rw [tlink_eq, tlink_d]
      simp only [asked_val n rings u v hD, h1, if_false, ieq_dec]
      rfl
    · rw [link18_eq, link18_d]
      simp only [right18_val n rings hD.1 hD.2, h1, decide_false, Bool.not_false]
    · rw [tcut_eq, tcut_d]
      simp only [asked_val n rings u v hD, h1, if_false, ieq_dec]
      rfl
    · rw [cut18_eq, cut18_d]
      simp only [right18_val n rings hD.1 hD.2, h1, decide_false, Bool.not_false]

theorem link_there {n : Int} {rings : List (List Int)} {u v : Int} (h : FR n rings) (iu : In n u) (iv : In n v) (hp : plc rings u = plc rings v) :
    tlink ((n, (rings, ())), u, v, ()) = some (n, rings, 5, ()) ∧ link18 ((n, (rings, ())), u, v, ()) = some (n, rings, 5, ()) := by
  have hD := h.dom
  have hRF := RF_iff.2 h
  constructor
  · rw [tlink_eq, tlink_d]
    simp only [asked_val n rings u v hD, hRF, iu, iv, and_self, if_true, ieq_dec, tplace_val n rings _ hD.1 (fun l hl => (hD.2 l hl).1), hp, decide_true, Bool.not_true]
  · rw [link18_eq, link18_d]
    simp only [right18_val n rings hD.1 hD.2, hRF, in18_val, iu, iv, decide_true, Bool.not_true, place18_val n rings _ hD.1 (fun l hl => (hD.2 l hl).1), ieq_dec, hp]

theorem tof_val (n : Int) (rings : List (List Int)) (v : Int) (hD : Dom rings) : tof ((n, (rings, ())), v, ()) = some (if RF n rings ∧ In n v then plc rings v else -1, ()) := by
  rw [tof_eq, tof_d]
  simp only [tin_val, tright_val n rings hD.1 hD.2, tplace_val n rings v hD.1 (fun l hl => (hD.2 l hl).1)]
  by_cases h1 : In n v
  · by_cases h2 : RF n rings <;> simp [h1, h2]
  · simp [h1]
theorem of18_val (n : Int) (rings : List (List Int)) (v : Int) (hD : Dom rings) : of18 ((n, (rings, ())), v, ()) = some (if RF n rings ∧ In n v then plc rings v else -1, ()) := by
  rw [of18_eq, of18_d]
  simp only [in18_val, right18_val n rings hD.1 hD.2, place18_val n rings v hD.1 (fun l hl => (hD.2 l hl).1)]
  by_cases h1 : In n v
  · by_cases h2 : RF n rings <;> simp [h1, h2]
  · by_cases h2 : RF n rings <;> simp [h1, h2]
end Go.Pev.Pl
end
section
/- A call whose result is the front of a slice that was handed in: it is the caller's own, from now on. Closures' own specs. Recursion. -/
namespace Go.Pev
open Go.RowKit

def takeK {R : Type} (slot : Nat) (H : List Ob) (fz : List Bool) (k : AV → Eff → Option R) (v : AV) (e : Eff) : Option R :=
  match e.heap with
  | none => match v with
    | .win id 0 n => match (appH e H)[id]? with
      | some (.arr T t xs) => match unfrozen (appF e fz) id && isFree (appH e H) (appF e fz) (slot + 3) && (e.objs.any fun p => Nat.beq p.1 id) with
        | true => k (.own (slot + 3)) { objs := e.objs ++ [(id, .dead), (slot + 3, .arr T t (dtake n xs))], frz := e.frz }
        | false => none
      | _ => none
    | _ => none
  | some _ => none

def takeBack (s : Spec) : Spec := fun R args H fz slot k => s R args H fz slot (takeK slot H fz k)

section
variable {P : Program} {g : FuncId}

theorem setObjs_app (a b : List (Nat × Ob)) : ∀ H, setObjs (a ++ b) H = setObjs b (setObjs a H) := by
  induction a with
  | nil => intro H; rfl
  | cons p a ih => intro H; obtain ⟨i, o⟩ := p; simp only [List.cons_append, setObjs]; exact ih _

/-- the front of an object, for the object -/
theorem goes_take {w : World} {F : Nat → Prop} {m : Mp} {H : List Ob} {fz : List Bool} (hi : HI w F m H fz) {id n slot : Nat} {T : TypeId} {t : Ty} {xs : List t.den} (ho : H[id]? = some (.arr T t xs)) (hf : unfrozen fz id = true)
    (hs : isFree H fz slot = true) {u : Value} (hr : Rep w F m H (.win id 0 n) u) :
    ∃ m', Goes w F m H fz w F m' ((H.set id .dead).set slot (.arr T t (dtake n xs))) fz ∧ Rep w F m' ((H.set id .dead).set slot (.arr T t (dtake n xs))) (.own slot) u := by
  have hob := hi.obj id _ ho
  obtain ⟨h0, hob⟩ := hob
  unfold Rep at hr
  rw [ho] at hr
  obtain ⟨hle, hr⟩ := hr
  rw [Nat.zero_add] at hle
  have hsn : slot ≠ id := free_ne hs ho
  have hkill := Goes.kill hi (owned_arr ho hf)
  have zero : ∀ a, n = 0 → u = .slice a 0 0 → ∃ m', Goes w F m H fz w F m' ((H.set id .dead).set slot (.arr T t (dtake n xs))) fz ∧ Rep w F m' ((H.set id .dead).set slot (.arr T t (dtake n xs))) (.own slot) u := by
    intro a hn hu
    subst hn; subst hu
    obtain ⟨m', hg, hrep⟩ := goes_new_empty (w := w) hkill.2 (isFree_set hs hsn) T h0 a
    exact ⟨m', hkill.trans hg, hrep⟩
  cases hm : m id with
  | none =>
    rw [hm] at hr hob
    obtain ⟨a, e1⟩ := hr
    simp only at hob
    subst hob
    have hn : n = 0 := by simpa using hle
    exact zero a hn (by rw [e1, hn])
  | some p =>
    obtain ⟨b, cap⟩ := p
    rw [hm] at hr hob
    obtain ⟨vs, row, e1, e2, e3, e4, e7, e8⟩ := hob
    obtain ⟨a, rfl, ha⟩ := hr
    rcases Nat.eq_zero_or_pos cap with hc | hc
    · have : n = 0 := by omega
      exact zero a this (by rw [this, hc])
    · have := ha hc
      rw [Nat.zero_mul] at this
      subst this
      have hk := fun (x : t.den) cs (h : Dat w F t x cs) => Dat.length t h
      have hlen : (xs.take n).length = n := by rw [List.length_take]; omega
      have hrw := rows_take hk n e7
      have hrl := rows_length hk hrw
      rw [hlen] at hrl
      have hg := Goes.move (w' := w) hi (owned_arr ho hf) hm hs (ob := .arr T t (dtake n xs)) trivial (b' := b) (c' := cap) (.inl rfl) rfl rfl rfl (Nat.le_refl _) (fun _ _ _ => rfl) (fun _ => ⟨h0, vs, row.take (n * t.size), e1, by
        show (xs.take n).length ≤ cap
        rw [hlen]; omega, e3, e4, hrw, by
        rw [hrl, ← e8, List.take_take, Nat.min_eq_left]
        rw [rows_length hk e7]
        exact Nat.mul_le_mul_right _ hle⟩)
      refine ⟨_, hg, ?_⟩
      have hlts := lt_of_get (isFree_iff hs).1
      unfold Rep
      rw [set_same (by simpa using hlts), upd_same]
      show Value.slice _ n (cap - 0) = Value.slice _ (xs.take n).length cap
      rw [hlen, Nat.sub_zero]

theorem takeBack_ok {s : Spec} (hs : SpecOK P g s) : SpecOK P g (takeBack s) := by
  intro R args H fz slot k r hk
  obtain ⟨v, e, h1, h2, h3, h4⟩ := hs R args H fz slot _ r hk
  unfold takeK at h1
  split at h1
  · rename_i he
    split at h1
    · rename_i id n
      split at h1
      · rename_i T t xs ho
        split at h1
        · rename_i hc
          refine ⟨_, _, h1, fun R' k' => ?_, h3, fun w F m vals hi hr => ?_⟩
          · unfold takeBack
            rw [h2]
            simp only [takeK, he, ho, hc]
          · refine (h4 w F m vals hi hr).mono ?_
            rintro en w' ⟨u, rfl, F', m', hg, hrep⟩
            simp only [Bool.and_eq_true] at hc
            obtain ⟨m2, hg2, hr2⟩ := goes_take hg.2 ho hc.1.1 hc.1.2 hrep
            have eH : appH { objs := e.objs ++ [(id, .dead), (slot + 3, .arr T t (dtake n xs))], frz := e.frz } H = ((appH e H).set id .dead).set (slot + 3) (.arr T t (dtake n xs)) := by
              rw [appH_none rfl, appH_none he, setObjs_app]
              rfl
            have eF : appF { objs := e.objs ++ [(id, .dead), (slot + 3, .arr T t (dtake n xs))], frz := e.frz } fz = appF e fz := by
              rw [appF_none rfl, appF_none he]
            refine ⟨u, rfl, F', m2, ?_, ?_⟩
            · rw [eH, eF]; exact hg.trans hg2
            · rw [eH]; exact hr2
        · cases h1
      · cases h1
    · cases h1
  · cases h1

theorem mkCall_none {na : Nat} {its outs : Items} {rs : List RS} {f : denL (leaves its) → Option (denL (leaves outs))} (hf : ∀ x, f x = none) : SpecOK P g (mkCall na its outs rs f) := by
  intro R args H fz slot k r hk
  unfold mkCall at hk
  split at hk
  · cases hk
  · split at hk
    · cases hk
    · rw [hf] at hk; cases hk
end

section
variable {S : List Nat} {H H' : List Ob}

theorem LocalSpec.toIn {s : Spec} (h : LocalSpec s) : LocalIn s :=
  fun R args H H' fz fz' slot k S hS _ ha => h R args H H' fz fz' slot k ⟨fun id hid => ha.heap id (hS id hid), ha.slotH, ha.slotF, ha.len, fun id hid => by cases hid⟩

/-- no item is an object by its number -/
def noObj : Items → Bool
  | [] => true
  | (.obj _, _) :: _ => false
  | _ :: r => noObj r

def refsIn (S : List Nat) (v : AV) : Prop := ∀ id ∈ refsAV v, id ∈ S
def bsIn (S : List Nat) (bs : List Bnd) : Prop := ∀ b ∈ bs, ∀ id, b.id? = some id → id ∈ S

theorem bsIn.get {bs : List Bnd} (h : bsIn S bs) {j : Nat} {b : Bnd} {id : Nat} (hj : bs[j]? = some b) (hi : b.id? = some id) : id ∈ S := h b (List.mem_of_getElem? hj) id hi
theorem bsIn.snoc {bs : List Bnd} (h : bsIn S bs) {b : Bnd} (hb : ∀ id, b.id? = some id → id ∈ S) : bsIn S (bs ++ [b]) := by
  intro x hx id hi
  rcases List.mem_append.1 hx with hx | hx
  · exact h x hx id hi
  · simp only [List.mem_singleton] at hx; subst hx; exact hb id hi

theorem look_in {tm : List AV} {bs : List Bnd} {l : Loc} (hS : ∀ id ∈ refsL tm, id ∈ S) (hc : ClosedS S H) (hH : ∀ id ∈ S, H[id]? = H'[id]?) (hb : bsIn S bs) (hl : ∀ j, l ≠ .obj j) :
    look tm H bs l = look tm H' bs l ∧ ∀ v, look tm H bs l = some v → refsIn S v := by
  cases l with
  | tmp t =>
    refine ⟨rfl, fun v hv id hid => hS id ?_⟩
    exact refsL_of_mem (List.mem_of_getElem? hv) hid
  | cell j c =>
    simp only [look]
    cases hj : bs[j]? with
    | none => exact ⟨rfl, fun v hv => by cases hv⟩
    | some b =>
      cases b with
      | none => exact ⟨rfl, fun v hv => by cases hv⟩
      | cut id => exact ⟨rfl, fun v hv => by cases hv⟩
      | whole id =>
        have hid := hb.get hj (id := id) rfl
        simp only
        rw [hH id hid]
        refine ⟨rfl, fun v hv => ?_⟩
        cases ho : H'[id]? with
        | none => rw [ho] at hv; cases hv
        | some o =>
          rw [ho] at hv
          cases o <;> simp only at hv <;> first | (cases hv; done) | skip
          rename_i cs
          intro i hi
          exact hc id hid cs (by rw [hH id hid, ho]) i (refsL_of_mem (List.mem_of_getElem? hv) hi)
  | cap t i =>
    refine ⟨rfl, fun v hv => ?_⟩
    simp only [look] at hv
    cases ht : tm[t]? with
    | none => rw [ht] at hv; cases hv
    | some a =>
      rw [ht] at hv
      cases a <;> simp only at hv <;> first | (cases hv; done) | skip
      rename_i f cs
      intro id hid
      refine hS id (refsL_of_mem (List.mem_of_getElem? ht) ?_)
      simp only [refsAV]
      exact refsL_of_mem (List.mem_of_getElem? hv) hid
  | obj j => exact absurd rfl (hl j)

theorem setFrz_agree {f : List Nat} {fz fz' : List Bool} (hl : fz.length = fz'.length) {id : Nat} (h : fz.getD id false = fz'.getD id false) : (setFrz f fz).getD id false = (setFrz f fz').getD id false := by
  rw [setFrz_getD, setFrz_getD, h, hl]

theorem dec_in {tm : List AV} (hS : ∀ id ∈ refsL tm, id ∈ S) (hc : ClosedS S H) (hH : ∀ id ∈ S, H[id]? = H'[id]?) : ∀ (its : Items) (fz fz' : List Bool) (bs : List Bnd), noObj its = true → bsIn S bs → fz.length = fz'.length → (∀ id ∈ S, fz.getD id false = fz'.getD id false) →
    dec tm H its fz bs = dec tm H' its fz' bs := by
  intro its
  induction its with
  | nil => intro fz fz' bs _ _ _ _; rfl
  | cons p r ih =>
    intro fz fz' bs hn hb hlen hz
    obtain ⟨l, c⟩ := p
    have hno : (∀ j, l ≠ .obj j) ∧ noObj r = true := by
      cases l with
      | obj j => cases hn
      | tmp t => exact ⟨fun j h => (by cases h), hn⟩
      | cell a b => exact ⟨fun j h => (by cases h), hn⟩
      | cap a b => exact ⟨fun j h => (by cases h), hn⟩
    obtain ⟨e1, e2⟩ := look_in hS hc hH hb hno.1
    have ihr := fun bs hb => ih fz fz' bs hno.2 hb hlen hz
    have unf : ∀ id ∈ S, unfrozen fz id = unfrozen fz' id := fun id hid => by unfold unfrozen; rw [hz id hid]
    cases c with
    | dat t =>
      simp only [dec, ← e1]
      cases hv : look tm H bs l with
      | none => rfl
      | some v =>
        simp only
        rw [asTy_local t v fun id hid => hH id (e2 v hv id hid)]
        cases asTy H' t v with
        | none => rfl
        | some q =>
          obtain ⟨x, f⟩ := q
          simp only
          rw [ih (setFrz f fz) (setFrz f fz') bs hno.2 hb (by rw [setFrz_len, setFrz_len, hlen]) (fun id hid => setFrz_agree hlen (hz id hid))]
    | own T e =>
      simp only [dec, ← e1]
      cases hv : look tm H bs l with
      | none => rfl
      | some v =>
        cases v with
        | nils e' => simp only; rw [ihr _ (hb.snoc fun id h => by cases h)]
        | own id =>
          have hid : id ∈ S := e2 _ hv id (by simp [refsAV])
          simp only
          rw [← hH id hid, unf id hid, ihr _ (hb.snoc fun id' h => by simp only [Bnd.id?, Option.some.injEq] at h; subst h; exact hid)]
        | win id off n =>
          have hid : id ∈ S := e2 _ hv id (by simp [refsAV])
          cases off with
          | succ off => rfl
          | zero =>
            simp only
            rw [← hH id hid, unf id hid, ihr _ (hb.snoc fun id' h => by simp only [Bnd.id?, Option.some.injEq] at h; subst h; exact hid)]
        | _ => rfl
    | box n =>
      simp only [dec, ← e1]
      cases hv : look tm H bs l with
      | none => rfl
      | some v =>
        cases v with
        | ptr id off =>
          have hid : id ∈ S := e2 _ hv id (by simp [refsAV])
          cases off with
          | succ off => rfl
          | zero =>
            simp only
            rw [← hH id hid, ihr _ (hb.snoc fun id' h => by simp only [Bnd.id?, Option.some.injEq] at h; subst h; exact hid)]
        | _ => rfl
    | map k v =>
      simp only [dec, ← e1]
      cases hv : look tm H bs l with
      | none => rfl
      | some u =>
        cases u with
        | mp id =>
          have hid : id ∈ S := e2 _ hv id (by simp [refsAV])
          simp only
          rw [← hH id hid, ihr _ (hb.snoc fun id' h => by simp only [Bnd.id?, Option.some.injEq] at h; subst h; exact hid)]
        | _ => rfl
    | own' j => simp only [dec, ← e1, ihr bs hb]
    | ptr' j off => simp only [dec, ← e1, ihr bs hb]
    | map' j => simp only [dec, ← e1, ihr bs hb]
    | sub' j => simp only [dec, ← e1, ihr bs hb]
    | win' j =>
      simp only [dec, ← e1]
      rw [ihr bs hb]
      cases hv : look tm H bs l with
      | none => rfl
      | some v =>
        cases v with
        | own id =>
          have hid : id ∈ S := e2 _ hv id (by simp [refsAV])
          cases bs[j]? with
          | none => rfl
          | some b =>
            cases b with
            | whole id' =>
              refine Eq.trans (b := match decide (id = id'), H[id]? with
                | true, some (.arr _ _ ys) => (match dec tm H' r fz' bs with
                  | some (xs, bs', g) => some ((dlen ys, xs), bs', g)
                  | none => none)
                | _, _ => none) rfl ?_
              rw [hH id hid]
              rfl
            | _ => rfl
        | win id off n =>
          cases off with
          | succ off => cases bs[j]? <;> rfl
          | zero =>
            cases bs[j]? with
            | none => rfl
            | some b => cases b <;> rfl
        | _ => cases bs[j]? <;> rfl
    | clo f ps => simp only [dec, ← e1, ihr bs hb]
    | nil e => simp only [dec, ← e1, ihr bs hb]

theorem idsOK_in {fz fz' : List Bool} : ∀ (n : Nat) (bs : List Bnd) (slot : Nat), (∀ s, slot ≤ s → s < slot + n → isFree H fz s = isFree H' fz' s) → idsOK H fz (idsOf n bs slot) bs = idsOK H' fz' (idsOf n bs slot) bs := by
  intro n
  induction n with
  | zero => intro bs slot _; cases bs <;> rfl
  | succ n ih =>
    intro bs slot h
    cases bs with
    | nil =>
      simp only [idsOf, idsOK, List.tail_nil]
      rw [h slot (Nat.le_refl _) (by omega), ih [] (slot + 1) fun s h1 h2 => h s (by omega) (by omega)]
    | cons b bs =>
      cases b with
      | whole id =>
        simp only [idsOf, idsOK, List.tail_cons]
        rw [ih bs slot fun s h1 h2 => h s h1 (by omega)]
      | none =>
        simp only [idsOf, idsOK, List.tail_cons]
        rw [h slot (Nat.le_refl _) (by omega), ih bs (slot + 1) fun s h1 h2 => h s (by omega) (by omega)]
      | cut id =>
        simp only [idsOf, idsOK, List.tail_cons]
        rw [h slot (Nat.le_refl _) (by omega), ih bs (slot + 1) fun s h1 h2 => h s (by omega) (by omega)]

theorem mkCall_in {na : Nat} {its outs : Items} {rs : List RS} {f : denL (leaves its) → Option (denL (leaves outs))} (hno : noObj its = true) (hn : Nat.ble (nobj outs) 4 = true) : LocalIn (mkCall na its outs rs f) := by
  intro R args H H' fz fz' slot k S hS hc ha
  have hn4 := Nat.le_of_ble_eq_true hn
  have hd : dec args H its fz [] = dec args H' its fz' [] := dec_in hS hc ha.heap its fz fz' [] hno (fun b hb => by cases hb) ha.len ha.wrF
  unfold mkCall
  rw [hd]
  split
  · rfl
  · rename_i x bs fr _
    split
    · rfl
    · split
      · rfl
      · have hf : ∀ (g : List Nat) s, slot ≤ s → s < slot + nobj outs → isFree H (setFrz g fz) s = isFree H' (setFrz g fz') s := fun g s h1 h2 => isFree_local ha h1 (by omega) g
        unfold backTo
        rw [idsOK_in (fz := fz) (fz' := fz') (nobj outs) bs slot (hf []), idsOK_in (fz := setFrz fr fz) (fz' := setFrz fr fz') (nobj outs) bs slot (hf fr)]

theorem idsOf_mem : ∀ (n : Nat) (bs : List Bnd) (slot i : Nat), i ∈ idsOf n bs slot → (∃ b ∈ bs, b.id? = some i) ∨ (slot ≤ i ∧ i < slot + n) := by
  intro n
  induction n with
  | zero => intro bs slot i h; cases bs <;> cases h
  | succ n ih =>
    intro bs slot i h
    have next : ∀ bs', i ∈ slot :: idsOf n bs' (slot + 1) → (∃ b ∈ bs', b.id? = some i) ∨ (slot ≤ i ∧ i < slot + (n + 1)) := by
      intro bs' h
      rcases List.mem_cons.1 h with rfl | h
      · exact .inr ⟨Nat.le_refl _, by omega⟩
      · rcases ih bs' (slot + 1) i h with h | h
        · exact .inl h
        · exact .inr ⟨by omega, by omega⟩
    cases bs with
    | nil => exact next [] h
    | cons b bs =>
      cases b with
      | whole id =>
        simp only [idsOf] at h
        rcases List.mem_cons.1 h with rfl | h
        · exact .inl ⟨.whole i, by simp, rfl⟩
        · rcases ih bs slot i h with ⟨b, hb, e⟩ | h
          · exact .inl ⟨b, by simp [hb], e⟩
          · exact .inr ⟨h.1, by omega⟩
      | none => rcases next bs h with ⟨b, hb, e⟩ | h; exact .inl ⟨b, by simp [hb], e⟩; exact .inr h
      | cut id => rcases next bs h with ⟨b, hb, e⟩ | h; exact .inl ⟨b, by simp [hb], e⟩; exact .inr h

/-- what is decoded lies in the set, too -/
theorem dec_bs_in {tm : List AV} (hS : ∀ id ∈ refsL tm, id ∈ S) (hc : ClosedS S H) : ∀ (its : Items) (fz : List Bool) (bs : List Bnd) (x : denL (leaves its)) (bs' : List Bnd) (fr : List Nat), noObj its = true → bsIn S bs →
    dec tm H its fz bs = some (x, bs', fr) → bsIn S bs' := by
  intro its
  induction its with
  | nil => intro fz bs x bs' fr _ hb h; simp only [dec, Option.some.injEq] at h; cases h; exact hb
  | cons p r ih =>
    intro fz bs x bs' fr hn hb h
    obtain ⟨l, c⟩ := p
    have hno : (∀ j, l ≠ .obj j) ∧ noObj r = true := by
      cases l with
      | obj j => cases hn
      | tmp t => exact ⟨fun j h => (by cases h), hn⟩
      | cell a b => exact ⟨fun j h => (by cases h), hn⟩
      | cap a b => exact ⟨fun j h => (by cases h), hn⟩
    have e2 := (look_in (H' := H) hS hc (fun _ _ => rfl) hb hno.1 (l := l)).2
    have one : ∀ {id : Nat} {b : Bnd}, id ∈ S → b.id? = some id → bsIn S (bs ++ [b]) := fun hid hbid => hb.snoc fun id' h' => by rw [hbid] at h'; cases h'; exact hid
    cases c <;> simp only [dec] at h
    case dat t =>
      split at h
      · split at h
        · split at h
          · split at h
            · rename_i hd; cases h; exact ih _ _ _ _ _ hno.2 hb hd
            · cases h
          · cases h
        · cases h
      · cases h
    case own T e =>
      split at h
      · split at h
        · split at h
          · rename_i hd; cases h; exact ih _ _ _ _ _ hno.2 (hb.snoc fun id h => by cases h) hd
          · cases h
        · cases h
      · rename_i id hl
        split at h
        · split at h
          · split at h
            · rename_i hd; cases h; exact ih _ _ _ _ _ hno.2 (one (e2 _ hl id (by simp [refsAV])) rfl) hd
            · cases h
          · cases h
        · cases h
      · rename_i id n hl
        split at h
        · split at h
          · split at h
            · rename_i hd; cases h; exact ih _ _ _ _ _ hno.2 (one (e2 _ hl id (by simp [refsAV])) rfl) hd
            · cases h
          · cases h
        · cases h
      · cases h
    case box n =>
      split at h
      · rename_i id hl
        split at h
        · split at h
          · exact ih _ _ _ _ _ hno.2 (one (e2 _ hl id (by simp [refsAV])) rfl) h
          · cases h
        · cases h
      · cases h
    case map k v =>
      split at h
      · rename_i id hl
        split at h
        · split at h
          · split at h
            · rename_i hd; cases h; exact ih _ _ _ _ _ hno.2 (one (e2 _ hl id (by simp [refsAV])) rfl) hd
            · cases h
          · cases h
        · cases h
      · cases h
    case own' j =>
      split at h
      · split at h
        · exact ih _ _ _ _ _ hno.2 hb h
        · cases h
      · cases h
    case ptr' j off =>
      split at h
      · split at h
        · exact ih _ _ _ _ _ hno.2 hb h
        · cases h
      · cases h
    case map' j =>
      split at h
      · split at h
        · exact ih _ _ _ _ _ hno.2 hb h
        · cases h
      · cases h
    case win' j =>
      split at h
      · split at h
        · split at h
          · rename_i hd; cases h; exact ih _ _ _ _ _ hno.2 hb hd
          · cases h
        · cases h
      · split at h
        · split at h
          · rename_i hd; cases h; exact ih _ _ _ _ _ hno.2 hb hd
          · cases h
        · cases h
      · cases h
    case sub' j =>
      split at h
      · split at h
        · split at h
          · rename_i hd; cases h; exact ih _ _ _ _ _ hno.2 hb hd
          · cases h
        · cases h
      · cases h
    case clo f ps =>
      split at h
      · split at h
        · exact ih _ _ _ _ _ hno.2 hb h
        · cases h
      · cases h
    case nil e =>
      cases hv : look tm H bs l with
      | none => rw [hv] at h; cases h
      | some v =>
        rw [hv] at h
        cases v <;> simp only at h <;> first | exact ih _ _ _ _ _ hno.2 hb h | cases h

theorem take_in {na : Nat} {its outs : Items} {rs : List RS} {f : denL (leaves its) → Option (denL (leaves outs))} (hno : noObj its = true) (hn : Nat.ble (nobj outs) 4 = true) : LocalIn (takeBack (mkCall na its outs rs f)) := by
  intro R args H H' fz fz' slot k hS0 hS hc ha
  have hn4 := Nat.le_of_ble_eq_true hn
  have hd : dec args H its fz [] = dec args H' its fz' [] := dec_in hS hc ha.heap its fz fz' [] hno (fun b hb => by cases hb) ha.len ha.wrF
  have hbs : ∀ x bs fr, dec args H its fz [] = some (x, bs, fr) → bsIn hS0 bs := fun x bs fr h => dec_bs_in hS hc its fz [] x bs fr hno (fun b hb => by cases hb) h
  unfold takeBack mkCall
  rw [hd] at hbs ⊢
  split
  · rfl
  · rename_i x bs fr hdec
    have hb := hbs x bs fr hdec
    split
    · rfl
    · split
      · rfl
      · rename_i y _
        have hf : ∀ (g : List Nat) s, slot ≤ s → s < slot + nobj outs → isFree H (setFrz g fz) s = isFree H' (setFrz g fz') s := fun g s h1 h2 => isFree_local ha h1 (by omega) g
        -- an object that is among the call's own
        have key : ∀ (e : Eff) (v : AV), e.heap = none → (∀ p ∈ e.objs, p.1 ∈ idsOf (nobj outs) bs slot) → takeK slot H fz k v e = takeK slot H' fz' k v e := by
          intro e v he ho
          unfold takeK
          rw [he]
          simp only
          have hfree : isFree (appH e H) (appF e fz) (slot + 3) = isFree (appH e H') (appF e fz') (slot + 3) := by
            rw [appH_none he, appH_none he, appF_none he, appF_none he]
            unfold isFree
            rw [setObjs_congr e.objs H H' (ha.slotH (slot + 3) (by omega) (by omega)), setFrz_agree ha.len (ha.slotF (slot + 3) (by omega) (by omega))]
          cases v with
          | win id off n =>
            cases off with
            | succ off => rfl
            | zero =>
              simp only
              cases hany : (e.objs.any fun p => Nat.beq p.1 id) with
              | false =>
                simp only [Bool.and_false]
                cases (appH e H)[id]? with
                | none => cases (appH e H')[id]? with
                  | none => rfl
                  | some o => cases o <;> rfl
                | some o => cases (appH e H')[id]? with
                  | none => cases o <;> rfl
                  | some o' => cases o <;> cases o' <;> rfl
              | true =>
                rw [List.any_eq_true] at hany
                obtain ⟨p, hp, hpi⟩ := hany
                have hpi := Nat.eq_of_beq_eq_true hpi
                subst hpi
                have hin := idsOf_mem _ _ _ _ (ho p hp)
                have h1 : H[p.1]? = H'[p.1]? := by
                  rcases hin with ⟨b, hbm, hbi⟩ | ⟨h1, h2⟩
                  · exact ha.heap _ (hb b hbm _ hbi)
                  · exact ha.slotH _ h1 (by omega)
                have h2 : fz.getD p.1 false = fz'.getD p.1 false := by
                  rcases hin with ⟨b, hbm, hbi⟩ | ⟨h1, h2⟩
                  · exact ha.wrF _ (hb b hbm _ hbi)
                  · exact ha.slotF _ h1 (by omega)
                have h3 : (appH e H)[p.1]? = (appH e H')[p.1]? := by
                  rw [appH_none he, appH_none he]
                  exact setObjs_congr e.objs H H' h1
                have h4 : unfrozen (appF e fz) p.1 = unfrozen (appF e fz') p.1 := by
                  rw [appF_none he, appF_none he]
                  unfold unfrozen
                  rw [setFrz_agree ha.len h2]
                rw [h3, h4, hfree]
          | _ => rfl
        unfold backTo
        rw [idsOK_in (fz := fz) (fz' := fz') (nobj outs) bs slot (hf []), idsOK_in (fz := setFrz fr fz) (fz' := setFrz fr fz') (nobj outs) bs slot (hf fr)]
        split
        · split
          · exact key { objs := _ } _ rfl fun p hp => (List.of_mem_zip hp).1
          · rfl
        · split
          · exact key { objs := _, frz := _ } _ rfl fun p hp => (List.of_mem_zip hp).1
          · rfl
end

/-- whose closure an argument is -/
def cloAt (i : Nat) (args : List AV) : Option FuncId :=
  match args[i]? with
  | some (.clo f _) => some f
  | _ => none

/-- a spec for calls with one closure -/
def Env.extC (E : Env) (g : FuncId) (i : Nat) (c : FuncId) (s : Spec) : Env where
  spec x := match Nat.beq x g with
    | true => fun R args H fz slot k => match cloAt i args with
      | some c' => match Nat.beq c' c with
        | true => s R args H fz slot k
        | false => E.spec x R args H fz slot k
      | .none => Option.none
    | false => E.spec x
  loc x := match Nat.beq x g with
    | true => false
    | false => E.loc x
  loc2 x := match Nat.beq x g with
    | true => E.loc2 g
    | false => E.loc2 x

theorem Env.extC_ok {P : Program} {E : Env} {g : FuncId} {i : Nat} {c : FuncId} {s : Spec} (h : EnvOK P E) (hs : SpecOK P g s) (hl2 : LocalIn s) : EnvOK P (E.extC g i c s) := by
  refine ⟨?_, ?_, ?_⟩
  · intro x
    simp only [Env.extC]
    cases hx : Nat.beq x g with
    | false => exact h.1 x
    | true =>
      have := Nat.eq_of_beq_eq_true hx
      subst this
      intro R args H fz slot k r hk
      simp only at hk
      split at hk
      · rename_i c' hc'
        split at hk
        · rename_i hb
          obtain ⟨v, e, h1, h2, h3, h4⟩ := hs R args H fz slot k r hk
          exact ⟨v, e, h1, fun R' k' => by simp only [hc', hb]; exact h2 R' k', h3, h4⟩
        · rename_i hb
          obtain ⟨v, e, h1, h2, h3, h4⟩ := h.1 x R args H fz slot k r hk
          exact ⟨v, e, h1, fun R' k' => by simp only [hc', hb]; exact h2 R' k', h3, h4⟩
      · cases hk
  · intro x hx
    simp only [Env.extC] at hx ⊢
    cases hb : Nat.beq x g with
    | true => rw [hb] at hx; cases hx
    | false => rw [hb] at hx; exact h.2.1 x hx
  · intro x hx
    simp only [Env.extC] at hx ⊢
    cases hb : Nat.beq x g with
    | true =>
      rw [hb] at hx
      have := Nat.eq_of_beq_eq_true hb
      subst this
      have h2 := h.2.2 x hx
      intro R args H H' fz fz' slot k S a1 a2 a3
      simp only
      split
      · split
        · exact hl2 R args H H' fz fz' slot k S a1 a2 a3
        · exact h2 R args H H' fz fz' slot k S a1 a2 a3
      · rfl
    | false => rw [hb] at hx; exact h.2.2 x hx
end Go.Pev
end
section
/- From a function's spec to the statement of a law: what is read as data is data of the evaluator. -/
namespace Go.Pev
open Go.RowKit Go.ChangeShapes Go.WideShapes Go.ChangeAt

def readFs (P : Program) (rd : TypeId → Option Ty) : List Field → Nat → Option Ty
  | [], _ => some .unit
  | f :: r, off => match rd f.type, readFs P rd r (off + P.cellsOf f.type) with
    | some a, some b => match Nat.beq f.offset off && Nat.beq (P.cellsOf f.type) a.size with
      | true => some (.prod a b)
      | false => none
    | _, _ => none

/-- a type of the program that is read as the evaluator's data; that the table's sizes fit -/
def readTy (P : Program) : Nat → TypeId → Option Ty
  | 0, _ => none
  | n + 1, t => match P.underlying t with
    | some .bool => some .bool
    | some (.int k) => some (.int k)
    | some (.slice e) => match readTy P n e with
      | some a => match Nat.beq (P.cellsOf e) a.size && !(Nat.beq a.size 0) with
        | true => some (.slice a)
        | false => none
      | none => none
    | some (.array c e) => match readTy P n e with
      | some a => match Nat.beq (P.cellsOf e) a.size && Nat.beq (P.cellsOf t) (c * a.size) with
        | true => some (.arr c a)
        | false => none
      | none => none
    | some (.struct fs) => match readFs P (readTy P n) fs.toList 0 with
      | some a => match Nat.beq (P.cellsOf t) a.size with
        | true => some a
        | false => none
      | none => none
    | _ => none

/-- numbers are of their kinds -/
def wfD : (t : Ty) → t.den → Prop
  | .unit, _ => True
  | .bool, _ => True
  | .int k, n => k.min ≤ n ∧ n ≤ k.max
  | .slice e, xs => List.length (α := e.den) xs ≤ maxLen ∧ ∀ x ∈ (xs : List e.den), wfD e x
  | .prod a b, d => wfD a d.1 ∧ wfD b d.2
  | .arr n e, xs => List.length (α := e.den) xs = n ∧ ∀ x ∈ (xs : List e.den), wfD e x

section
variable {H : Type} {enc : TypeId × Value → H} {P : Program} {w : World} {spare : Nat → Bool} {held : Bool}

abbrev below (w : World) : Nat → Prop := fun b => b < w.heap.size

theorem wf_int {k : IntKind} {n : Int} (h : (Lit.int k n).wf = true) : k.min ≤ n ∧ n ≤ k.max := by
  simpa [Lit.wf] using h

theorem rows_of {α : Type} {R : α → List Value → Prop} {k : Nat} : ∀ (m : Nat) (f : Nat → List Value), (∀ i, i < m → (f i).length = k ∧ ∃ x, R x (f i)) → ∃ xs : List α, xs.length = m ∧ rows R xs ((List.range m).flatMap f) ∧ ∀ x ∈ xs, ∃ i, i < m ∧ R x (f i) := by
  intro m
  induction m with
  | zero => intro f _; exact ⟨[], rfl, rfl, fun x hx => by cases hx⟩
  | succ m ih =>
    intro f h
    obtain ⟨xs, h1, h2, h3⟩ := ih f fun i hi => h i (by omega)
    obtain ⟨_, x, hx⟩ := h m (by omega)
    refine ⟨xs ++ [x], by simp [h1], ?_, fun y hy => ?_⟩
    · rw [List.range_succ, List.flatMap_append]
      exact rows_app h2 (by simp; exact ⟨f m, [], by simp, hx, rfl⟩)
    · rcases List.mem_append.1 hy with hy | hy
      · obtain ⟨i, hi, hr⟩ := h3 y hy; exact ⟨i, by omega, hr⟩
      · simp only [List.mem_singleton] at hy; subst hy; exact ⟨m, by omega, hx⟩

theorem flat_get {f : Nat → List Value} {k : Nat} : ∀ (m : Nat), (∀ i, i < m → (f i).length = k) → ∀ (j : Nat) (u : Value), ((List.range m).flatMap f)[j]? = some u → ∃ i r, i < m ∧ r < k ∧ j = i * k + r ∧ (f i)[r]? = some u := by
  intro m
  induction m with
  | zero => intro _ j u h; simp at h
  | succ m ih =>
    intro hl j u h
    rw [List.range_succ, List.flatMap_append] at h
    have hlen : ∀ m', m' ≤ m → ((List.range m').flatMap f).length = m' * k := by
      intro m' hm'
      induction m' with
      | zero => simp
      | succ m' ih' =>
        rw [List.range_succ, List.flatMap_append, List.length_append, ih' (by omega)]
        simp [hl m' (by omega), Nat.add_mul]
    rcases Nat.lt_or_ge j (m * k) with hj | hj
    · rw [List.getElem?_append_left (by rw [hlen m (Nat.le_refl _)]; exact hj)] at h
      obtain ⟨i, r, h1, h2, h3, h4⟩ := ih (fun i hi => hl i (by omega)) j u h
      exact ⟨i, r, by omega, h2, h3, h4⟩
    · rw [List.getElem?_append_right (by rw [hlen m (Nat.le_refl _)]; exact hj), hlen m (Nat.le_refl _)] at h
      simp only [List.flatMap_cons, List.flatMap_nil, List.append_nil] at h
      have hr : j - m * k < k := by
        have := lt_of_get' h
        rwa [hl m (by omega)] at this
      exact ⟨m, j - m * k, by omega, hr, by omega, h⟩

theorem addr_add (a : Addr) (i j : Nat) : (a.add i).add j = a.add (i + j) := by
  unfold Addr.add
  by_cases hi : i = 0
  · subst hi; simp
  · by_cases hj : j = 0
    · subst hj; simp
    · have : ¬ (i + j = 0) := by omega
      simp [hi, hj, Nat.add_assoc]

theorem choose_lt' {α : Type} [Inhabited α] {n : Nat} {p : Nat → α → Prop} (h : ∀ i, i < n → ∃ x, p i x) : ∃ f : Nat → α, ∀ i, i < n → p i (f i) := by
  classical
  refine ⟨fun i => if hi : i < n then Classical.choose (h i hi) else default, fun i hi => ?_⟩
  simp only [dif_pos hi]
  exact Classical.choose_spec (h i hi)

theorem readFs_dat {rd : TypeId → Option Ty} {cs : List Value} (hrd : ∀ (f : Field) (a : Ty), rd f.type = some a → (P.cellsOf f.type = a.size) → (∃ y : Nat × (DataW H × List MemPlace), DataW.trod enc P w 0 spare held y.1 f.type ((cs.drop f.offset).take (P.cellsOf f.type)) = some y.2) → ∃ d : a.den, Dat w (below w) a d ((cs.drop f.offset).take (P.cellsOf f.type)) ∧ wfD a d) :
    ∀ (fs : List Field) (off : Nat) (t : Ty), readFs P rd fs off = some t → off + t.size = cs.length → (∀ f ∈ fs, ∃ y : Nat × (DataW H × List MemPlace), DataW.trod enc P w 0 spare held y.1 f.type ((cs.drop f.offset).take (P.cellsOf f.type)) = some y.2) →
      ∃ d : t.den, Dat w (below w) t d (cs.drop off) ∧ wfD t d := by
  intro fs
  induction fs with
  | nil =>
    intro off t h hl _
    simp only [readFs, Option.some.injEq] at h
    subst h
    refine ⟨(), ?_, trivial⟩
    show cs.drop off = []
    simp [Ty.size] at hl
    exact List.drop_eq_nil_of_le (by omega)
  | cons f r ih =>
    intro off t h hl hf
    simp only [readFs] at h
    split at h
    · rename_i a b ha hb
      split at h
      · rename_i hc
        simp only [Option.some.injEq] at h
        subst h
        simp only [Bool.and_eq_true] at hc
        have h1 := Nat.eq_of_beq_eq_true hc.1
        have h2 := Nat.eq_of_beq_eq_true hc.2
        obtain ⟨d, hd, hw⟩ := hrd f a ha h2 (hf f (by simp))
        simp only [Ty.size] at hl
        obtain ⟨e, he, hw'⟩ := ih (off + P.cellsOf f.type) b hb (by omega) fun g hg => hf g (by simp [hg])
        refine ⟨(d, e), ⟨(cs.drop off).take (P.cellsOf f.type), cs.drop (off + P.cellsOf f.type), ?_, ?_, he⟩, hw, hw'⟩
        · rw [← List.drop_drop, List.take_append_drop]
        · rw [h1] at hd; exact hd
      · cases h
    · cases h

theorem trod_dat : ∀ (n : Nat) (t : TypeId) (ty : Ty) (fuel : Nat) (cs : List Value) (x : DataW H × List MemPlace), readTy P n t = some ty → DataW.trod enc P w 0 spare held fuel t cs = some x → ∃ d : ty.den, Dat w (below w) ty d cs ∧ wfD ty d := by
  intro n
  induction n with
  | zero => intro t ty fuel cs x h; cases h
  | succ n ih =>
    intro t ty fuel cs x h hx
    simp only [readTy] at h
    split at h
    · rename_i hu
      simp only [Option.some.injEq] at h; subst h
      obtain ⟨b, rfl, _⟩ := DataW.trod_bool hu hx
      exact ⟨b, rfl, trivial⟩
    · rename_i k hu
      simp only [Option.some.injEq] at h; subst h
      obtain ⟨m, rfl, _, hw⟩ := DataW.trod_int hu hx
      exact ⟨m, rfl, wf_int hw⟩
    · rename_i e hu
      split at h
      · rename_i a ha
        split at h
        · rename_i hc
          simp only [Option.some.injEq] at h; subst h
          rw [Bool.and_eq_true] at hc
          have hpos : a.size ≠ 0 := fun h0 => by rw [h0] at hc; simp at hc
          have hc := Nat.eq_of_beq_eq_true hc.1
          rcases DataW.trod_slice hu hx with ⟨rfl, _⟩ | ⟨ad, len, cap, elems, rest, m, rfl, rfl, _, _, hle, hmax, hlen, hel, _⟩
          · exact ⟨[], ⟨none, 0, rfl, Nat.le_refl _, fun hne => absurd rfl hne⟩, Nat.zero_le _, fun x hx => by cases hx⟩
          · -- each element
            have each : ∀ i, i < len → ∃ cs', w.cells? 0 (ad.add (i * P.cellsOf e)) (P.cellsOf e) = some cs' ∧ ∃ d : a.den, Dat w (below w) a d cs' ∧ wfD a d := by
              intro i hi
              have h1 := hel i hi
              rw [List.getElem?_eq_getElem (by omega), Option.bind_eq_some_iff] at h1
              obtain ⟨cs', h2, h3⟩ := h1
              exact ⟨cs', h2, ih e a m cs' _ ha h3⟩
            obtain ⟨f, hf⟩ := choose_lt' (α := List Value) (p := fun i cs' => w.cells? 0 (ad.add (i * P.cellsOf e)) (P.cellsOf e) = some cs' ∧ ∃ d : a.den, Dat w (below w) a d cs' ∧ wfD a d) each
            have hfl : ∀ i, i < len → (f i).length = a.size := by
              intro i hi
              obtain ⟨_, hl, _⟩ := World.cells?_some (hf i hi).1
              rw [hl, hc]
            obtain ⟨xs, h1, h2, h3⟩ := rows_of (R := fun (d : a.den) cs => Dat w (below w) a d cs ∧ wfD a d) (k := a.size) len f fun i hi => ⟨hfl i hi, (hf i hi).2⟩
            refine ⟨xs, ⟨some ad, cap, by rw [h1], by rw [h1]; exact hle, fun hne => ⟨ad, (List.range len).flatMap f, rfl, ?_, rows_mono (fun x _ cs hx => hx.1) h2, fun j u hu => ?_⟩⟩, by rw [h1]; exact Nat.le_trans hle hmax, fun x hx => ?_⟩
            · -- the block is there
              have hl0 : 0 < len := by
                rcases Nat.eq_zero_or_pos len with h0 | h0
                · exact absurd (List.eq_nil_of_length_eq_zero (by rw [h1, h0])) hne
                · exact h0
              have hb := World.cells?_block (hf 0 hl0).1 (by omega)
              rw [Nat.zero_mul] at hb
              have e0 : ad.add 0 = ad := by simp [Addr.add]
              rw [e0] at hb
              exact hb
            · obtain ⟨i, r, hi, hr, rfl, hur⟩ := flat_get len hfl j u hu
              obtain ⟨_, _, hcell⟩ := World.cells?_some (hf i hi).1
              have := hcell r (by rw [hc]; exact hr)
              rw [hur] at this
              rw [← this, hc, addr_add]
            · obtain ⟨i, _, hr⟩ := h3 x hx
              exact hr.2
        · cases h
      · cases h
    · rename_i c e hu
      split at h
      · rename_i a ha
        split at h
        · rename_i hc
          simp only [Option.some.injEq] at h; subst h
          rw [Bool.and_eq_true] at hc
          have hc1 := Nat.eq_of_beq_eq_true hc.1
          have hc2 := Nat.eq_of_beq_eq_true hc.2
          obtain ⟨xs, m, rfl, _, hl, hxs, hfs⟩ := DataW.trod_array hu hx
          rw [hc2] at hl
          obtain ⟨ys, h1, h2, h3⟩ := rows_of (R := fun (d : a.den) cs => Dat w (below w) a d cs ∧ wfD a d) (k := a.size) c (fun i => (cs.drop (i * a.size)).take a.size) fun i hi => by
            have hi1 : i * a.size + a.size ≤ c * a.size := by
              have := Nat.mul_le_mul_right a.size (show i + 1 ≤ c from hi)
              rwa [Nat.add_mul, Nat.one_mul] at this
            have h1 := hfs i hi
            rw [List.getElem?_eq_getElem (by omega), hc1] at h1
            exact ⟨by rw [List.length_take, List.length_drop, hl]; omega, ih e a m _ _ ha h1⟩
          have hjoin : ∀ k, k ≤ c → (List.range k).flatMap (fun i => (cs.drop (i * a.size)).take a.size) = cs.take (k * a.size) := by
            intro k
            induction k with
            | zero => intro _; simp
            | succ k ihk =>
              intro hk
              rw [List.range_succ, List.flatMap_append, ihk (by omega), Nat.add_mul, Nat.one_mul, List.take_add]
              simp
          rw [hjoin c (Nat.le_refl _), ← hl, List.take_length] at h2
          exact ⟨ys, ⟨h1, rows_mono (fun x _ cs hx => hx.1) h2⟩, h1, fun x hx => by obtain ⟨i, _, hr⟩ := h3 x hx; exact hr.2⟩
        · cases h
      · cases h
    · rename_i fs hu
      split at h
      · rename_i a ha
        split at h
        · rename_i hc
          simp only [Option.some.injEq] at h; subst h
          have hc := Nat.eq_of_beq_eq_true hc
          obtain ⟨xs, m, rfl, _, hl, hxs, hfs⟩ := DataW.trod_struct hu hx
          obtain ⟨d, hd, hw⟩ := readFs_dat (enc := enc) (w := w) (spare := spare) (held := held) (cs := cs) (fun f b hb _ ⟨y, hy⟩ => ih f.type b y.1 _ y.2 hb hy) fs.toList 0 _ ha (by rw [hl, hc]; omega) (fun f hf => by
            obtain ⟨i, hi⟩ := List.getElem?_of_mem hf
            have h1 := hfs i f (by simpa using hi)
            have hlt : i < xs.length := by rw [hxs]; simpa using lt_of_get' hi
            rw [List.getElem?_eq_getElem hlt] at h1
            exact ⟨(m, xs[i]), h1⟩)
          rw [List.drop_zero] at hd
          exact ⟨d, hd, hw⟩
        · cases h
      · cases h
    · cases h

/-- a value that is read as data -/
theorem okWide_one {r : Reach} {b0 : Nat} {t : TypeId} {v : Value} (hval : Value.okWide P w r b0 t v) (hn : ∀ d, P.underlying t = some d → (match d with | .bool | .int _ | .slice _ => true | _ => false) = true) {ty : Ty} {n : Nat} (h : readTy P (n + 1) t = some ty) : v.cells.toList = [v] := by
  simp only [Value.okWide] at hval
  have hu : ∃ d, P.underlying t = some d := by
    cases hu : P.underlying t with
    | none => simp only [readTy, hu] at h; cases h
    | some d => exact ⟨d, rfl⟩
  obtain ⟨d, hu⟩ := hu
  have := hn d hu
  rw [hu] at hval
  cases d <;> simp only [Bool.false_eq_true] at this <;> simp only [Cell.okWide, hu] at hval <;> cases v <;> first | rfl | (simp_all [Cell.ok])

theorem trod_rep {r : Reach} {b0 : Nat} {t : TypeId} {v : Value} {ps : List MemPlace} {dd : DataW H} (hval : Value.okWide P w r b0 t v) (hd : DataW.Trod enc P w 0 spare held t v dd ps) {ty : Ty} {n : Nat} (h : readTy P (n + 1) t = some ty) :
    ∃ d : ty.den, RepD w (below w) ty d v ∧ wfD ty d := by
  obtain ⟨fuel, hf⟩ := hd
  obtain ⟨d, h1, h2⟩ := trod_dat (n + 1) t ty fuel _ _ h hf
  refine ⟨d, ?_, h2⟩
  have one : (∀ d, P.underlying t = some d → (match d with | .bool | .int _ | .slice _ => true | _ => false) = true) → ty.isAgg = false → RepD w (below w) ty d v := by
    intro hn hg
    unfold RepD
    rw [hg]
    rw [okWide_one hval hn h] at h1
    exact h1
  have agg : (∃ cs, v = .agg cs) → ty.isAgg = true → RepD w (below w) ty d v := by
    rintro ⟨cs, rfl⟩ hg
    unfold RepD
    rw [hg]
    exact ⟨cs, rfl, h1⟩
  have hu : ∃ d, P.underlying t = some d := by
    cases hu : P.underlying t with
    | none => simp only [readTy, hu] at h; cases h
    | some d => exact ⟨d, rfl⟩
  obtain ⟨td, hu⟩ := hu
  simp only [readTy, hu] at h
  split at h
  · rename_i hq; cases hq; simp only [Option.some.injEq] at h; subst h
    exact one (fun d hd => by rw [hu] at hd; cases hd; rfl) rfl
  · rename_i k hq; cases hq; simp only [Option.some.injEq] at h; subst h
    exact one (fun d hd => by rw [hu] at hd; cases hd; rfl) rfl
  · rename_i e hq; cases hq
    split at h
    · split at h
      · simp only [Option.some.injEq] at h; subst h
        exact one (fun d hd => by rw [hu] at hd; cases hd; rfl) rfl
      · cases h
    · cases h
  · rename_i c e hq; cases hq
    have hv : ∃ cs, v = .agg cs := by
      simp only [Value.okWide, hu] at hval
      obtain ⟨cs, rfl, _⟩ := hval
      exact ⟨cs, rfl⟩
    split at h
    · split at h
      · simp only [Option.some.injEq] at h; subst h
        exact agg hv rfl
      · cases h
    · cases h
  · rename_i fs hq; cases hq
    have hv : ∃ cs, v = .agg cs := by
      simp only [Value.okWide, hu] at hval
      obtain ⟨cs, rfl, _⟩ := hval
      exact ⟨cs, rfl⟩
    split at h
    · rename_i a ha
      split at h
      · simp only [Option.some.injEq] at h; subst h
        refine agg hv ?_
        cases hfs : fs.toList with
        | nil => rw [hfs] at ha; simp only [readFs, Option.some.injEq] at ha; subst ha; rfl
        | cons f r =>
          rw [hfs] at ha
          simp only [readFs] at ha
          split at ha
          · split at ha
            · simp only [Option.some.injEq] at ha; subst ha; rfl
            · cases ha
          · cases ha
      · cases h
    · cases h
  · cases h

/-- a function's run, out of its spec: of a world of which nothing is known -/
theorem calls_of_spec {g : FuncId} {s : Spec} (hs : SpecOK P g s) {args : List AV} {b : Bool} {e : Eff} (hrun : s (AV × Eff) args [] [] 0 (fun v e => some (v, e)) = some (.data .bool b, e)) {vals : List Value}
    (hr : RepL w (below w) (fun _ => none) [] args vals) : Calls P g vals.toArray w fun en w' => en = .returned (.bool b) ∧ Below w.heap.size w w' := by
  obtain ⟨v, e', h1, _, _, h4⟩ := hs _ args [] [] 0 _ _ hrun
  simp only [Option.some.injEq, Prod.mk.injEq] at h1
  obtain ⟨rfl, rfl⟩ := h1
  have hi : HI w (below w) (fun _ => none) [] [] := ⟨fun id o h => by simp at h, fun i j b c b' c' h => by simp [owned] at h, fun i b c h => by simp [owned] at h, fun i T t xs b c h => by simp at h, fun b h => h, rfl⟩
  refine (h4 w _ _ vals hi hr).mono ?_
  rintro en w' ⟨u, rfl, F', m', ⟨hx, _⟩, hu⟩
  have hb : u = .bool b := rep_bool hu
  subst hb
  exact ⟨rfl, hx.os, hx.tape, hx.output, hx.size, fun i hi => hx.keep i hi fun j c ho _ => by simp [owned] at ho⟩
end

section
variable {H : Type} {enc : TypeId × Value → H} {P : Program}
theorem post_of_below {f : Func} {s : ChangeSpec} {apart fresh handsOn again : Bool} {W W' : World} {args : Array Value} {v : Value} {ds gs : List (DataW H)} {before pa pv : List MemPlace}
    (hW : DataW.Whole enc P f.params.toList s.vars apart W args.toList ds gs before)
    (hres : ∀ (b : Nat) (sp : Nat → Bool) (hd : Bool), DataW.TrodAll enc P W' b sp hd f.resultTypes.toList (v.resultList f.resultTypes.size) (s.fn H (ds ++ gs)).results [])
    (hargs : ∀ sp : Nat → Bool, (∀ p ∈ before, sp p.block = true) → DataW.TrodAll enc P W' 0 sp true f.params.toList args.toList (s.fn H (ds ++ gs)).args pa)
    (hvars : ∀ sp : Nat → Bool, (∀ p ∈ before, sp p.block = true) → DataW.TrodVars enc P W' sp s.vars (s.fn H (ds ++ gs)).vars pv)
    (hps : before = pa ++ pv) (hb : Below W.heap.size W W')
    (hok : ∀ (j : Nat) (t : TypeId) (r : Value), f.resultTypes[j]? = some t → (v.resultList f.resultTypes.size)[j]? = some r → Value.okWide P W' .any 0 t r) :
    s.post enc P f apart fresh handsOn again W args v W' := by
  have hlt : ∀ p ∈ before, p.block < W.heap.size := fun p hp => hW.lt p hp
  have hold : ∀ p ∈ before, (fun b => decide (b < W.heap.size)) p.block = true := fun p hp => by simpa using hlt p hp
  refine ⟨ds, gs, before, [], pa, pv, hW, hres _ _ _, hargs _ hold, hvars _ hold, World.keptBut_mono (fun p hp => ⟨hp, ?_⟩) (hb.frame (· ∈ before)), fun _ => ?_⟩
  · rw [hps, List.mem_append] at hp
    exact Or.inr hp
  · obtain ⟨_, _, _, _, _, hz, hn⟩ := hW
    refine ⟨hok, _, _, ([] ++ pa) ++ pv, ⟨[] ++ pa, pv, trodAll_append (hargs _ (fun _ _ => rfl)) (hres _ _ _), hvars _ (fun _ _ => rfl), rfl, ?_, ?_⟩, ?_⟩
    · intro b off hp
      have hin : MemPlace.cell b off ∈ before := by rw [hps]; simpa using hp
      rw [hb.frozen (hlt _ hin)]
      exact hz b off hin
    · intro ha
      have := hn ha
      rw [hps] at this
      simpa using this
    · intro p hp _
      rw [hps]
      simpa using hp

/-- an argument reads behind the call as it did -/
theorem trod_after {t : TypeId} (hl : laidOutB P = true) (hr : P.readableRec t = true) (hrow : t < P.types.size) {W W' : World} {v : Value} {d : DataW H} {ps : List MemPlace}
    (h : DataW.Trod enc P W 0 (fun _ => true) true t v d ps) (hb : Below W.heap.size W W') (hlt : ∀ x ∈ ps, x.block < W.heap.size) {sp : Nat → Bool} (hs : ∀ x ∈ ps, sp x.block = true) :
    DataW.Trod enc P W' 0 sp true t v d ps :=
  WideElems.Trod_stays hl hr hrow h (fun x hx => hb.same (hlt x hx)) hs
end
end Go.Pev
end
section
/- The law TourTokens of the models. -/
namespace Go.Pev.Pl
open Go.RowKit Tok
theorem alive18_true : alive18 () = some (true, ()) := by
  rw [alive18_ceq]
  kernel_rfl
theorem ieq_self (a : Int) : ieq a a = true := by rw [ieq_eq]; simp

theorem makeOut_len (n : Int) : (makeOut n).2.1.length < 9223372036854775808 ∧ ∀ x ∈ (makeOut n).2.1, x.length < 9223372036854775808 := by
  rw [makeOut]
  split
  · rename_i h
    have := h.2
    refine ⟨by simp only [singles_len]; omega, fun x hx => ?_⟩
    simp only [singles, List.mem_map] at hx
    obtain ⟨a, _, rfl⟩ := hx
    simp
  · exact ⟨by simp, by simp⟩

theorem arcT_range (n u v : Int) : -1 ≤ arcT n u v ∧ arcT n u v ≤ 4160 := by
  rw [arcT]
  split
  · rename_i h
    obtain ⟨⟨a1, a2, a3, a4⟩, ⟨b1, b2, b3, b4⟩, _⟩ := h
    have := mul_bounds (u := u + 1) a1 a2 (by omega) (by omega)
    omega
  · omega

theorem tourTokens_true (n u v : Int) (h0 : wfD (.int .i64) n) (h1 : wfD (.int .i64) u) (h2 : wfD (.int .i64) v) : tourTokens (n, u, v, ()) = some (true, ()) := by
  have hu : -9223372036854775808 ≤ u ∧ u ≤ 9223372036854775807 := h1
  have hr := arcT_range n u v
  rw [tourTokens_eq, tourTokens_d]
  obtain ⟨m1, m2⟩ := makeOut_len n
  simp only [alive18_true, Bool.not_true, ttoken_val n u hu, token18_val n u hu, tmake_val, make18_val]
  rcases hM : makeOut n with ⟨y9, y10, y11, yu⟩
  rcases hK : tokR (tokOf n u) with ⟨y1, y2, y3, y4, yv⟩
  rw [hM] at m1 m2
  simp only [ieq_self, Bool.not_true, BEq.rfl, tvertex_val, vertex18_val, tarc_val, arc18_val, same18_val _ _ _ _ m1 m2, and_self, decide_true]
  rcases arcT_cases n u v with ⟨ha, hb, hc⟩ | ⟨ha, hb⟩
  · have hn : 0 ≤ n := by have := ha.1.1; omega
    rw [ile_eq, decide_eq_true (show (0 : Int) ≤ arcT n u v by omega)]
    simp only []
    rw [ttoken_val n _ (by omega), hb, tokOf_enc ha]
    simp only [tokR, ieq_self]
  · rw [ile_eq, decide_eq_false (show ¬ (0 : Int) ≤ arcT n u v by omega)]
    simp only []
    cases hT : tokOf n u with
    | none =>
      rw [hT] at hK
      cases hK
      rfl
    | some t =>
      obtain ⟨g1, g2⟩ := enc_tokOf hT
      rw [hT] at hK
      cases t with
      | ver w =>
        cases hK
        have hv : ∀ x, okT n (.ver x) → vertex n x = x := fun x h => by rw [vertex]; exact if_pos h
        simp only [encT] at g2
        subst g2
        simp only [Bool.not_true, Bool.not_false, hv _ g1, ieq_self]
      | arc p q =>
        cases hK
        have := arcT_enc g1
        simp only [Bool.not_true, this, g2, ieq_self]
end Go.Pev.Pl
end
section
/- The law TourAnswers of the models. -/
namespace Go.Pev.Pl
open Tok

theorem great_walk : ∀ (xs : List (List Int)) (acc : Int), -9223372036854775808 ≤ acc ∧ acc ≤ 9223372036854775807 → ∃ r, walk (ρ := (Int × Int × Unit) ⊕ Unit) (fun (x : List Int) (acc : Int) => if acc ≤ 120 then .inl (IntKind.wrap .i64 (acc + (x.length : Int))) else .inr (.inl (120, acc, ()))) (fun acc => .inl (120, acc, ())) xs acc = .inl (120, r, ()) ∧ (120 < acc → r = acc) := by
  intro xs
  induction xs with
  | nil => intro acc _; exact ⟨acc, rfl, fun _ => rfl⟩
  | cons x xs ih =>
    intro acc h0
    rw [walk]
    by_cases h : acc ≤ 120
    · simp only [h, if_true]
      obtain ⟨r, r1, _⟩ := ih (IntKind.wrap .i64 (acc + (x.length : Int))) (wrap_range _)
      exact ⟨r, r1, fun hh => by omega⟩
    · simp only [h, if_false]
      exact ⟨acc, rfl, fun _ => rfl⟩

theorem great18_val (n : Int) (rings : List (List Int)) (h1 : rings.length < 9223372036854775808) :
    ∃ b, great18 ((n, (rings, ())), (120 : Int), ()) = some (b, ()) ∧ (b = false → rings.length ≤ 120) := by
  rw [great18_eq, great18_d]
  have e := walkL (step := great18_s0) (fun i (acc : Int) => ((120 : Int), n, rings, acc, (i : Int), ())) rings (fun (x : List Int) (acc : Int) => if acc ≤ 120 then .inl (IntKind.wrap .i64 (acc + (x.length : Int))) else .inr (.inl (120, acc, ()))) (fun acc => .inl (120, acc, ())) (fun _ acc => True) (by omega)
    (fun i x acc hi hx _ => by
      have hst : great18_s0 ((120 : Int), n, rings, acc, (i : Int), ()) = if acc ≤ 120 then some (.inl ((120 : Int), n, rings, IntKind.wrap .i64 (acc + (x.length : Int)), ((i + 1 : Nat) : Int), ())) else some (.inr (.inl (120, acc, ()))) := by
        rw [great18_s0, dlen_l, ilt_nat, decide_eq_true hi, ile_eq]
        by_cases h : acc ≤ 120
        · rw [decide_eq_true h]
          simp only [idx_some hx, h, if_true, dlen_l]
          rw [wrap_add1 (by omega)]
        · rw [decide_eq_false h]
          simp only [h, if_false]
      rw [hst]
      refine ⟨fun a' h' => ?_, fun r h' => ?_⟩
      · split at h'
        · cases h'
          rename_i h
          simp only [h, if_true]
          exact ⟨by trivial, by trivial⟩
        · cases h'
      · split at h'
        · cases h'
        · cases h'
          rename_i h
          simp only [h, if_false])
    (fun acc _ => by rw [great18_s0, dlen_l, ilt_nat, decide_eq_false (by omega)]) (rings.length : Int) trivial
  have e' : iterL great18_s0 many ((120 : Int), n, rings, dlen rings, (0 : Int), ()) = _ := e
  obtain ⟨r, r1, r2⟩ := great_walk rings (rings.length : Int) (by omega)
  rw [r1] at e'
  simp only [e', ilt_eq]
  refine ⟨_, rfl, fun hb => ?_⟩
  rw [decide_eq_false_iff_not] at hb
  refine Classical.byContradiction fun hc => ?_
  have := r2 (by omega)
  omega

theorem wfD_rings {n : Int} {rings : List (List Int)} (h : wfD (.prod (.int .i64) (.prod (.slice (.slice (.int .i64))) .unit)) (n, (rings, ()))) :
    rings.length < 9223372036854775808 ∧ ∀ l ∈ rings, l.length < 9223372036854775808 ∧ ∀ x ∈ l, -9223372036854775808 ≤ x ∧ x ≤ 9223372036854775807 := by
  obtain ⟨_, ⟨h1, h2⟩, _⟩ := h
  have hm : maxLen < 9223372036854775808 := by decide
  exact ⟨Nat.lt_of_le_of_lt h1 hm, fun l hl => ⟨Nat.lt_of_le_of_lt (h2 l hl).1 hm, fun x hx => (h2 l hl).2 x hx⟩⟩

theorem same_self (n : Int) (rings : List (List Int)) (hD : Dom rings) : same18 ((n, (rings, ())), (n, (rings, ())), ()) = some (true, ()) := by
  rw [same18_val n n rings rings (by have := hD.1; omega) (fun l hl => by have := (hD.2 l hl).1; omega)]
  simp

theorem both_link {n : Int} {rings : List (List Int)} (u v : Int) (hD : Dom rings) : ∃ zs e, tlink ((n, (rings, ())), u, v, ()) = some (n, zs, e, ()) ∧ link18 ((n, (rings, ())), u, v, ()) = some (n, zs, e, ()) ∧ Dom zs := by
  by_cases h : RF n rings ∧ In n u ∧ In n v
  · obtain ⟨h1, iu, iv⟩ := h
    have hF := RF_iff.1 h1
    obtain ⟨i, A, pu, hi, hu, _⟩ := plc_in (hF.cov u iu)
    obtain ⟨j, B, pv, hj, hv, _⟩ := plc_in (hF.cov v iv)
    by_cases hij : i = j
    · obtain ⟨q1, q2⟩ := link_there hF iu iv (by rw [pu, pv, hij])
      exact ⟨_, _, q1, q2, hD⟩
    · obtain ⟨zs, rest, q1, q2, q3, _⟩ := link_ok hF iu iv hi hj hu hv hij
      exact ⟨_, _, q1, q2, q3.dom⟩
  · obtain ⟨e, _, _, q1, q2, _⟩ := link_refused hD h
    exact ⟨_, _, q1, q2, hD⟩
theorem both_cut {n : Int} {rings : List (List Int)} (u v : Int) (hD : Dom rings) : ∃ zs e, tcut ((n, (rings, ())), u, v, ()) = some (n, zs, e, ()) ∧ cut18 ((n, (rings, ())), u, v, ()) = some (n, zs, e, ()) ∧ Dom zs := by
  by_cases h : RF n rings ∧ In n u ∧ In n v
  · obtain ⟨h1, iu, iv⟩ := h
    have hF := RF_iff.1 h1
    obtain ⟨i, A, pu, hi, hu, _⟩ := plc_in (hF.cov u iu)
    by_cases ht : arcT n u v ∈ A
    · obtain ⟨zs, rest, p, q, q1, q2, q3, _⟩ := cut_ok hF iu iv hi hu ht
      exact ⟨_, _, q1, q2, q3.dom⟩
    · obtain ⟨q1, q2⟩ := cut_none hF iu iv hi hu ht
      exact ⟨_, _, q1, q2, hD⟩
  · obtain ⟨e, _, _, _, _, q1, q2⟩ := link_refused hD h
    exact ⟨_, _, q1, q2, hD⟩

theorem tourAnswers_true (f : Int × List (List Int) × Unit) (u v : Int) (h0 : wfD (.prod (.int .i64) (.prod (.slice (.slice (.int .i64))) .unit)) f) (h1 : wfD (.int .i64) u) (h2 : wfD (.int .i64) v) : tourAnswers (f, u, v, ()) = some (true, ()) := by
  obtain ⟨n, rings, _⟩ := f
  obtain ⟨w1, w2⟩ := wfD_rings h0
  rw [tourAnswers_eq, tourAnswers_d]
  obtain ⟨b, e, hb⟩ := great18_val n rings w1
  simp only [alive18_true, Bool.not_true, e]
  cases b
  · have b1 := hb rfl
    have hD : Dom rings := ⟨by omega, w2⟩
    obtain ⟨zs, e1, q1, q2, q3⟩ := both_link (n := n) u v hD
    obtain ⟨ys, e2, p1, p2, p3⟩ := both_cut (n := n) u v hD
    simp only [q1, q2, p1, p2, same_self n zs q3, same_self n ys p3, ieq_self, tright_val n rings hD.1 hD.2, right18_val n rings hD.1 hD.2, BEq.rfl, tof_val n rings u hD, of18_val n rings u hD]
  · rfl
end Go.Pev.Pl
end
section
/- The law TourBack of the models. -/
namespace Go.Pev.Pl
open Tok

theorem mem_index {α : Type} {l : List α} {a : α} (h : a ∈ l) : ∃ k : Nat, l[k]? = some a := by
  obtain ⟨k, hk, rfl⟩ := List.getElem_of_mem h
  exact ⟨k, List.getElem?_eq_getElem hk⟩
theorem mid_notin {α : Type} {t x : α} {p q : List α} (h : (t :: (p ++ x :: q)).Nodup) : x ∉ p := by
  rw [List.nodup_cons, List.nodup_append] at h
  exact fun hm => h.2.2.2 x hm x (by simp) rfl

/-- cut where it was linked -/
theorem cut_linked {n : Int} {rings zs rest : List (List Int)} {u v : Int} {A B : List Int} (h : FR n rings) (hz : FR n zs) (iu : In n u) (iv : In n v) (gA : RG n A) (gB : RG n B) (hu : u ∈ A) (hv : v ∈ B) (hp : rings.Perm (A :: B :: rest)) (hpz : zs.Perm (plain (linkAll n A B u v) :: rest)) (hd : Dis n A B) :
    tcut ((n, (zs, ())), u, v, ()) = some (n, rings, 0, ()) ∧ tcut ((n, (zs, ())), v, u, ()) = some (n, rings, 0, ()) := by
  obtain ⟨l1, l2, l3, huv, ho⟩ := link_ring gA.2.2.2 gB.2.2.2 hu hv iu iv hd
  obtain ⟨hRG, hrot⟩ := RG_plain l1
  have hn := (TI_Rt l1).2.2
  obtain ⟨k, hk⟩ := mem_index (hpz.mem_iff.2 (List.mem_cons_self))
  have up : u ∈ plain (linkAll n A B u v) := hrot.perm.mem_iff.1 ((l3 u iu.2.2.2).2 (.inl hu))
  have vp : v ∈ plain (linkAll n A B u v) := hrot.perm.mem_iff.1 ((l3 v iv.2.2.2).2 (.inr hv))
  have a1 : arcT n u v ∈ linkAll n A B u v := by simp [linkAll]
  have a2 : arcT n v u ∈ linkAll n A B u v := by simp [linkAll]
  have rA : IRot A ((rotAt A u).tail ++ [u]) := by
    obtain ⟨x, y, e1, e2⟩ := rotAt_irot hu
    rw [e2] at l2
    obtain ⟨c, d, q1, q2, q3⟩ := rotAt_in hu
    refine ⟨c ++ [u], d, by rw [q1]; simp, ?_⟩
    rw [q3]; simp
  have pA : plain ((rotAt A u).tail ++ [u]) = A := by
    rw [plain_rot rA gA.1 (TI_Rt (TI_rot gA.2.2.2 rA)) gA.2.1, gA.self]
  have pB : plain (rotAt B v) = B := by
    have r := rotAt_irot hv
    rw [plain_rot r gB.1 (TI_Rt (TI_rot gB.2.2.2 r)) gB.2.1, gB.self]
  have c1 : rotAt (plain (linkAll n A B u v)) (arcT n u v) = arcT n u v :: (rotAt B v ++ arcT n v u :: ((rotAt A u).tail ++ [u])) := by
    rw [← rotAt_rot hrot hn a1, rotAt_eq hn (a := [u]) (b := rotAt B v ++ arcT n v u :: (rotAt A u).tail) rfl]
    simp
  have c2 : rotAt (plain (linkAll n A B u v)) (arcT n v u) = arcT n v u :: (((rotAt A u).tail ++ [u]) ++ arcT n u v :: rotAt B v) := by
    rw [← rotAt_rot hrot hn a2, rotAt_eq hn (a := u :: arcT n u v :: rotAt B v) (b := (rotAt A u).tail) (by simp [linkAll])]
    simp
  have n1 : (rotAt (plain (linkAll n A B u v)) (arcT n u v)).Nodup := (rotAt_irot (hrot.perm.mem_iff.1 a1)).perm.nodup_iff.1 hRG.1.2.2
  have n2 : (rotAt (plain (linkAll n A B u v)) (arcT n v u)).Nodup := (rotAt_irot (hrot.perm.mem_iff.1 a2)).perm.nodup_iff.1 hRG.1.2.2
  constructor
  · obtain ⟨zs2, rest2, P, Q, q1, _, q3, q4, q5, q6, _⟩ := cut_ok hz iu iv hk up (hrot.perm.mem_iff.1 a1)
    have e1 := q6
    rw [c1] at e1 n1
    rw [List.cons.injEq] at e1
    rw [q6] at c1
    have n1' := n1
    rw [e1.2] at n1'
    obtain ⟨s1, s2⟩ := split_uniq e1.2.symm (mid_notin n1') (mid_notin n1)
    rw [s1, s2, pA, pB] at q5
    have hr : rest2.Perm rest := (List.perm_cons _).1 (q4.symm.trans hpz)
    have : zs2 = rings := sorted_same h.up (q5.trans (((hr.cons A).cons B).trans ((List.Perm.swap A B rest).trans hp.symm))) (q3.up.imp fun h => by omega)
    rw [q1, this]
  · obtain ⟨zs2, rest2, P, Q, q1, _, q3, q4, q5, q6, _⟩ := cut_ok hz iv iu hk vp (hrot.perm.mem_iff.1 a2)
    have e1 := q6
    rw [c2] at e1 n2
    rw [List.cons.injEq] at e1
    have n2' := n2
    rw [e1.2] at n2'
    obtain ⟨s1, s2⟩ := split_uniq e1.2.symm (mid_notin n2') (mid_notin n2)
    rw [s1, s2, pA, pB] at q5
    have hr : rest2.Perm rest := (List.perm_cons _).1 (q4.symm.trans hpz)
    have : zs2 = rings := sorted_same h.up (q5.trans (((hr.cons B).cons A).trans hp.symm)) (q3.up.imp fun h => by omega)
    rw [q1, this]

theorem tourBack_true (f : Int × List (List Int) × Unit) (u v : Int) (h0 : wfD (.prod (.int .i64) (.prod (.slice (.slice (.int .i64))) .unit)) f) (h1 : wfD (.int .i64) u) (h2 : wfD (.int .i64) v) : tourBack (f, u, v, ()) = some (true, ()) := by
  obtain ⟨n, rings, _⟩ := f
  obtain ⟨w1, w2⟩ := wfD_rings h0
  rw [tourBack_eq, tourBack_d]
  obtain ⟨b, e, hb⟩ := great18_val n rings w1
  simp only [alive18_true, Bool.not_true, e]
  cases b
  · have b1 := hb rfl
    have hD : Dom rings := ⟨by omega, w2⟩
    simp only []
    by_cases h : RF n rings ∧ In n u ∧ In n v
    · obtain ⟨h1, iu, iv⟩ := h
      have hF := RF_iff.1 h1
      obtain ⟨i, A, pu, hi, hu, _⟩ := plc_in (hF.cov u iu)
      obtain ⟨j, B, pv, hj, hv, _⟩ := plc_in (hF.cov v iv)
      by_cases hij : i = j
      · obtain ⟨q1, _⟩ := link_there hF iu iv (by rw [pu, pv, hij])
        simp only [q1, ieq_dec]
        rw [decide_eq_false (by omega)]
        simp only [Bool.not_false, same_self n rings hD]
      · obtain ⟨zs, rest, q1, _, q3, q4, q5, q6⟩ := link_ok hF iu iv hi hj hu hv hij
        have gA := hF.rg A (List.mem_of_getElem? hi)
        have gB := hF.rg B (List.mem_of_getElem? hj)
        obtain ⟨c1, c2⟩ := cut_linked hF q3 iu iv gA gB hu hv q4 q5 q6
        obtain ⟨l1, l2, l3, huv, ho⟩ := link_ring gA.2.2.2 gB.2.2.2 hu hv iu iv q6
        obtain ⟨hRG, hrot⟩ := RG_plain l1
        obtain ⟨k, hk⟩ := mem_index (q5.mem_iff.2 (List.mem_cons_self))
        have up := hrot.perm.mem_iff.1 ((l3 u iu.2.2.2).2 (.inl hu))
        have vp := hrot.perm.mem_iff.1 ((l3 v iv.2.2.2).2 (.inr hv))
        have hDz := q3.dom
        have hRz := RF_iff.2 q3
        have len1 := q4.length_eq
        have len2 := q5.length_eq
        simp only [List.length_cons] at len1 len2
        simp only [q1, ieq_self, Bool.not_true, c1, c2, same_self n rings hD, right18_val n zs hDz.1 hDz.2, hRz, decide_true, tof_val n zs _ hDz, iu, iv, and_self, if_true, q3.plc_eq hk iu.2.2.2 up, q3.plc_eq hk iv.2.2.2 vp, dlen_l]
        rw [wrap_sub1 (by omega), ieq_nat, decide_eq_true (by omega)]
    · obtain ⟨e, he, _, q1, _⟩ := link_refused hD h
      simp only [q1, ieq_dec]
      rw [decide_eq_false he]
      simp only [Bool.not_false, same_self n rings hD]
  · rfl
end Go.Pev.Pl
end
section
/- The law TourCuts of the models. -/
namespace Go.Pev.Pl
open Tok

theorem plc_same {n : Int} {zs : List (List Int)} {k : Nat} {P : List Int} {u w : Int} (h : FR n zs) (hk : zs[k]? = some P) (hu : u ∈ P) (iu : In n u) (iw : In n w) : plc zs w = plc zs u ↔ w ∈ P := by
  rw [h.plc_eq hk iu.2.2.2 hu]
  constructor
  · intro e
    obtain ⟨j, l, e2, hj, hw, _⟩ := plc_in (h.cov w iw)
    rw [e2] at e
    have : j = k := by omega
    subst this
    rw [hk] at hj
    cases hj
    exact hw
  · intro hw
    exact h.plc_eq hk iw.2.2.2 hw

theorem cuts_loop {n : Int} {rings zs : List (List Int)} {u : Int} (hD : Dom rings) (hDz : Dom zs) (hn : Sz n) (h1 : RF n rings) (h2 : RF n zs) (iu : In n u) (hs : ∀ w, In n w → (plc zs w = plc zs u ↔ plc rings w = plc rings u)) :
    iterL tourCuts_s0 many (u, n, rings, n, zs, (0 : Int), ()) = some (.inr (.inl ())) := by
  obtain ⟨s1, s2⟩ := hn
  obtain ⟨N, rfl⟩ := Int.eq_ofNat_of_zero_le (show 0 ≤ n by omega)
  have e := scanL (step := tourCuts_s0) (fun i => (u, (N : Int), rings, (N : Int), zs, (i : Int), ())) N (fun _ => false) (fun _ => .inl (false, ())) (.inr (.inl ())) (by omega)
    (fun i hi => by
      have iw : In (N : Int) (i : Int) := ⟨s1, s2, by omega, by omega⟩
      rw [tourCuts_s0, ilt_nat, decide_eq_true hi]
      simp only [tof_val _ _ _ hD, tof_val _ _ _ hDz, h1, h2, iu, iw, and_self, if_true, ieq_dec]
      rw [wrap_add1 (by omega)]
      have : decide (plc zs (i : Int) = plc zs u) = decide (plc rings (i : Int) = plc rings u) := decide_eq_decide.2 (hs _ iw)
      simp [this])
    (by rw [tourCuts_s0, ilt_nat, decide_eq_false (by omega)])
  rcases e with ⟨k, _, h, _⟩ | ⟨_, e⟩
  · cases h
  · exact e

theorem tourCuts_true (f : Int × List (List Int) × Unit) (u v : Int) (h0 : wfD (.prod (.int .i64) (.prod (.slice (.slice (.int .i64))) .unit)) f) (h1 : wfD (.int .i64) u) (h2 : wfD (.int .i64) v) : tourCuts (f, u, v, ()) = some (true, ()) := by
  obtain ⟨n, rings, _⟩ := f
  obtain ⟨w1, w2⟩ := wfD_rings h0
  rw [tourCuts_eq, tourCuts_d]
  obtain ⟨b, e, hb⟩ := great18_val n rings w1
  simp only [alive18_true, Bool.not_true, e]
  cases b
  · have b1 := hb rfl
    have hD : Dom rings := ⟨by omega, w2⟩
    simp only []
    by_cases h : RF n rings ∧ In n u ∧ In n v
    · obtain ⟨h1, iu, iv⟩ := h
      have hF := RF_iff.1 h1
      obtain ⟨i, A, pu, hi, hu, _⟩ := plc_in (hF.cov u iu)
      by_cases ht : arcT n u v ∈ A
      · obtain ⟨zs, rest, p, q, c1, _, c3, c4, c5, c6, tp, tq, vp, uq, hdis, hmem, ho⟩ := cut_ok hF iu iv hi hu ht
        obtain ⟨gp, ip⟩ := RG_plain tp
        obtain ⟨gq, iq⟩ := RG_plain tq
        have rA := hF.rg A (List.mem_of_getElem? hi)
        have hDz := c3.dom
        have hRz := RF_iff.2 c3
        obtain ⟨kp, hkp⟩ := mem_index (c5.mem_iff.2 (show plain p ∈ plain p :: plain q :: rest by simp))
        obtain ⟨kq, hkq⟩ := mem_index (c5.mem_iff.2 (show plain q ∈ plain p :: plain q :: rest by simp))
        have vp' : v ∈ plain p := ip.perm.mem_iff.1 vp
        have uq' : u ∈ plain q := iq.perm.mem_iff.1 uq
        have vA : v ∈ A := (hmem v iv.2.2.2).2 (.inl vp)
        have hkne : kq ≠ kp := by
          rintro rfl
          rw [hkp] at hkq
          have e := Option.some.inj hkq
          exact hdis u (ip.perm.mem_iff.2 (by rw [e]; exact uq')) iu.2.2.2 uq
        have eu := c3.plc_eq hkq iu.2.2.2 uq'
        have ev := c3.plc_eq hkp iv.2.2.2 vp'
        have ev2 := hF.plc_eq hi iv.2.2.2 vA
        obtain ⟨zs3, rest3, d1, _, d3, d4, d5, d6⟩ := link_ok c3 iu iv hkq hkp uq' vp' hkne
        have hnq : arcT n u v ∉ plain q := by
          have hn : (rotAt A (arcT n u v)).Nodup := (rotAt_irot ht).perm.nodup_iff.1 rA.1.2.2
          rw [c6, List.nodup_cons] at hn
          intro hm
          exact hn.1 (by simp [iq.perm.mem_iff.2 hm])
        obtain ⟨f1, _⟩ := cut_none c3 iu iv hkq uq' hnq
        obtain ⟨l1, l2, l3, huv, _⟩ := link_ring gq.2.2.2 gp.2.2.2 uq' vp' iu iv d6
        obtain ⟨hRG, hrot⟩ := RG_plain l1
        obtain ⟨k3, hk3⟩ := mem_index (d5.mem_iff.2 (List.mem_cons_self))
        have up3 := hrot.perm.mem_iff.1 ((l3 u iu.2.2.2).2 (.inl uq'))
        have hDz3 := d3.dom
        have hRz3 := RF_iff.2 d3
        have len1 := c4.length_eq
        have len2 := c5.length_eq
        have len3 := d4.length_eq
        have len4 := d5.length_eq
        simp only [List.length_cons] at len1 len2 len3 len4
        have hlp := cuts_loop hD hDz3 hF.sz h1 hRz3 iu fun w iw => by
          rw [plc_same d3 hk3 up3 iu iw, plc_same hF hi hu iu iw, ← hrot.perm.mem_iff, l3 w iw.2.2.2, ← iq.perm.mem_iff, ← ip.perm.mem_iff, hmem w iw.2.2.2]
          exact or_comm
        simp only [c1, ieq_self, Bool.not_true, right18_val n zs hDz.1 hDz.2, hRz, decide_true, tof_val n _ _ hDz, tof_val n _ _ hD, h1, iu, iv, and_self, if_true, eu, ev, pu, ev2, dlen_l]
        rw [wrap_add1 (by have := hD.1; omega), ieq_nat, decide_eq_true (show zs.length = rings.length + 1 by omega)]
        simp only [Bool.not_true]
        rw [ieq_nat, decide_eq_false hkne]
        simp only [d1, f1, ieq_self, Bool.not_true]
        rw [ieq_nat, decide_eq_true (show zs3.length = rings.length by omega)]
        simp only [Bool.not_true, hlp]
      · obtain ⟨q1, _⟩ := cut_none hF iu iv hi hu ht
        simp only [q1, ieq_dec]
        rw [decide_eq_false (by omega)]
        simp only [Bool.not_false, same_self n rings hD]
    · obtain ⟨e, he, _, _, _, q1, _⟩ := link_refused hD h
      simp only [q1, ieq_dec]
      rw [decide_eq_false he]
      simp only [Bool.not_false, same_self n rings hD]
  · rfl
end Go.Pev.Pl
end
section
/- The law TourArcs of the models. -/
namespace Go.Pev.Pl
open Tok

theorem RG_single {n v : Int} (h : In n v) : RG n [v] := by
  refine ⟨⟨by simp, fun x hx => ?_, by simp⟩, by simp, rfl, (TI_one n v).2 h⟩
  simp only [List.mem_singleton] at hx
  subst hx
  have := h.2.1
  have := h.2.2
  omega
theorem FR_singles {N : Nat} (h1 : 1 ≤ N) (h2 : N ≤ 64) : FR (N : Int) (singles N) := by
  have key : ∀ k, k < N → In (N : Int) (k : Int) := fun k hk => ⟨by omega, by omega, by omega, by omega⟩
  refine ⟨⟨by omega, by omega⟩, fun l hl => ?_, ?_, ?_, fun v hv => ?_⟩
  · simp only [singles, List.mem_map, List.mem_range] at hl
    obtain ⟨k, hk, rfl⟩ := hl
    exact RG_single (key k hk)
  · rw [singles, List.pairwise_map]
    exact List.pairwise_lt_range.imp fun h => by simp only [hd, List.headD_cons]; omega
  · rw [singles, List.pairwise_map]
    exact List.pairwise_lt_range.imp fun {a b} h t ht _ ht2 => by
      simp only [List.mem_singleton] at ht ht2
      omega
  · obtain ⟨k, rfl⟩ := Int.eq_ofNat_of_zero_le hv.2.2.1
    have := hv.2.2.2
    exact ⟨[(k : Int)], by simp only [singles, List.mem_map, List.mem_range]; exact ⟨k, by omega, rfl⟩, by simp⟩

theorem arcs_links (N : Nat) (h1 : 1 ≤ N) (h2 : N ≤ 64) (links : List (List Int)) (hl : links.length ≤ 60) (hu : ∀ x ∈ links, ∀ k, 0 ≤ dget x k (0 : Int) ∧ dget x k (0 : Int) ≤ 255) :
    ∀ (m i cnt : Nat) (rings : List (List Int)) (taken : Nat), i + m = links.length → FR (N : Int) rings → rings.length + taken = N → m < cnt →
    ∃ (rings' : List (List Int)) (taken' : Nat), iterO tourArcs_s0 cnt (links, (N : Int), (N : Int), rings, (taken : Int), (i : Int), ()) = some (.inr (.inl ((N : Int), (N : Int), rings', (taken' : Int), ()))) ∧ FR (N : Int) rings' ∧ rings'.length + taken' = N := by
  intro m
  induction m with
  | zero =>
    intro i cnt rings taken hi hF ht hc
    obtain ⟨cnt, rfl⟩ : ∃ c, cnt = c + 1 := ⟨cnt - 1, by omega⟩
    refine ⟨rings, taken, ?_, hF, ht⟩
    rw [iterO, tourArcs_s0, dlen_l, ilt_nat, decide_eq_false (by omega)]
  | succ m ih =>
    intro i cnt rings taken hi hF ht hc
    obtain ⟨cnt, rfl⟩ : ∃ c, cnt = c + 1 := ⟨cnt - 1, by omega⟩
    have hi' : i < links.length := by omega
    have hx : links[i]? = some links[i] := List.getElem?_eq_getElem hi'
    have hux := hu _ (List.getElem_mem hi')
    rw [iterO, tourArcs_s0, dlen_l, ilt_nat, decide_eq_true hi']
    simp only [idx_some hx]
    generalize links[i] = x at *
    have tok : ∀ k, ∃ q : Nat, rem? (IntKind.wrap .i64 (dget x k (0 : Int))) (N : Int) = some (q : Int) ∧ In (N : Int) (q : Int) := by
      intro k
      obtain ⟨a, ha⟩ := Int.eq_ofNat_of_zero_le (hux k).1
      have hk := (hux k).2
      rw [ha] at hk ⊢
      refine ⟨a % N, ?_, ?_⟩
      · rw [wrap_in (by omega)]; exact rem_nat (by omega)
      · have := Nat.mod_lt a (show 0 < N by omega)
        exact ⟨by omega, by omega, by omega, by omega⟩
    obtain ⟨u, e1, iu⟩ := tok 0
    obtain ⟨v, e2, iv⟩ := tok 1
    simp only [e1, e2]
    rw [wrap_add1 (show taken + 1 < 9223372036854775808 by omega), wrap_add1 (show i + 1 < 9223372036854775808 by omega)]
    obtain ⟨a, A, pu, ha, hua, _⟩ := plc_in (hF.cov _ iu)
    obtain ⟨b, B, pv, hb, hvb, _⟩ := plc_in (hF.cov _ iv)
    by_cases hab : a = b
    · obtain ⟨q1, _⟩ := link_there hF iu iv (by rw [pu, pv, hab])
      have g1 : ieq (5 : Int) 0 = false := by rw [ieq_eq]; rfl
      have g2 : ieq (5 : Int) 5 = true := by rw [ieq_eq]; rfl
      simp only [q1, g1, g2, Bool.not_true]
      exact ih (i + 1) cnt rings taken (by omega) hF ht (by omega)
    · obtain ⟨zs, rest, q1, _, q3, q4, q5, _⟩ := link_ok hF iu iv ha hb hua hvb hab
      have g1 : ieq (0 : Int) 0 = true := by rw [ieq_eq]; rfl
      simp only [q1, g1]
      have len1 := q4.length_eq
      have len2 := q5.length_eq
      simp only [List.length_cons] at len1 len2
      exact ih (i + 1) cnt zs (taken + 1) (by omega) q3 (by omega) (by omega)

/-- vertices' tokens among a ring's -/
def vcount (n : Int) (l : List Int) : Nat := (l.filter fun t => decide (t < n)).length
theorem vcount_vers {n : Int} : ∀ {L : List Tok}, (∀ t ∈ L, okT n t) → vcount n (L.map (encT n)) = (vers L).length := by
  intro L
  induction L with
  | nil => intro _; rfl
  | cons t L ih =>
    intro h
    have h1 := ih fun t ht => h t (List.mem_cons_of_mem _ ht)
    have h2 := h t (by simp)
    rw [vcount] at h1 ⊢
    cases t with
    | ver v =>
      have : v < n := h2.2.2.2
      rw [List.map_cons, List.filter_cons_of_pos (by simp only [encT]; exact decide_eq_true this), List.length_cons, h1, vers, List.length_cons]
    | arc u v =>
      have := (enc_arc h2.1 h2.2.1).1
      rw [List.map_cons, List.filter_cons_of_neg (by rw [decide_eq_true_eq]; simp only [encT]; omega), h1, vers]

theorem arcs_ring (N : Nat) (h1 : 1 ≤ N) (h2 : N ≤ 64) (rings : List (List Int)) (taken all : Int) (i : Nat) (l : List Int) (hi : rings[i]? = some l) (hg : RG (N : Int) l) :
    ∀ (m j cnt : Nat), j + m = l.length → m < cnt →
    iterO tourArcs_s2 cnt ((N : Int), (N : Int), rings, taken, all, (i : Int), (vcount (N : Int) (l.take j) : Int), (j : Int), ()) = some (.inr (.inl ((N : Int), (N : Int), rings, taken, all, (i : Int), (vcount (N : Int) l : Int), ()))) := by
  have hl := hg.1.1
  intro m
  induction m with
  | zero =>
    intro j cnt hj hc
    obtain ⟨cnt, rfl⟩ : ∃ c, cnt = c + 1 := ⟨cnt - 1, by omega⟩
    rw [iterO, tourArcs_s2]
    simp only [idx_some hi, dlen_l]
    rw [ilt_nat, decide_eq_false (by omega), List.take_of_length_le (by omega)]
  | succ m ih =>
    intro j cnt hj hc
    obtain ⟨cnt, rfl⟩ : ∃ c, cnt = c + 1 := ⟨cnt - 1, by omega⟩
    have hj' : j < l.length := by omega
    have hx : l[j]? = some l[j] := List.getElem?_eq_getElem hj'
    have hmem := List.getElem_mem hj'
    rw [iterO, tourArcs_s2]
    simp only [idx_some hi, dlen_l]
    rw [ilt_nat, decide_eq_true hj']
    simp only [idx_some hx]
    have htk : l.take (j + 1) = l.take j ++ [l[j]] := by rw [List.take_succ_eq_append_getElem hj']
    have hih := ih (j + 1) cnt (by omega) (by omega)
    rw [htk] at hih
    obtain ⟨t, t1, t2, t3⟩ := TI_ok hg.2.2.2 _ hmem
    have hr := hg.1.2.1 _ hmem
    rw [ttoken_val _ _ (by omega), t1]
    have hvc : vcount (N : Int) (l.take j) ≤ 1000 := by
      have h3 := List.length_filter_le (fun t => decide (t < (N : Int))) (l.take j)
      have h4 : (l.take j).length ≤ l.length := by simp; omega
      rw [vcount]; omega
    have hadd : vcount (N : Int) (l.take j ++ [l[j]]) = vcount (N : Int) (l.take j) + if l[j] < (N : Int) then 1 else 0 := by
      rw [vcount, vcount, List.filter_append, List.length_append]
      congr 1
      by_cases h : l[j] < (N : Int) <;> simp [h]
    rw [hadd] at hih
    rw [wrap_add1 (show vcount (N : Int) (l.take j) + 1 < 9223372036854775808 by omega), wrap_add1 (show j + 1 < 9223372036854775808 by omega)]
    cases t with
    | ver v =>
      have hv : l[j] < (N : Int) := by rw [← t3]; exact t2.2.2.2
      rw [if_pos hv] at hih
      simp only [tokR, Bool.not_true, Bool.not_false]
      exact hih
    | arc u v =>
      have hv : ¬ l[j] < (N : Int) := by rw [← t3]; have := (enc_arc t2.1 t2.2.1).1; simp only [encT]; omega
      rw [if_neg hv] at hih
      have hback : arcT (N : Int) v u ∈ l := by
        obtain ⟨L, q1, q2, q3⟩ := hg.2.2.2
        rw [arcT_enc (okT_swap t2)]
        rw [q1, mem_enc q2 (okT_swap t2)]
        refine ((q3.facts).2.2 u v ?_).2.2.1
        rw [← mem_enc q2 t2, ← q1, t3]
        exact hmem
      obtain ⟨k, e, _⟩ := pos_in hback
      simp only [tokR, Bool.not_true, tarc_val, place13_val l _ (show l.length < 9223372036854775808 by omega), e, ilt_eq]
      rw [decide_eq_false (show ¬ ((k : Nat) : Int) < 0 by omega)]
      exact hih

theorem arcs_rings (N : Nat) (h1 : 1 ≤ N) (h2 : N ≤ 64) (rings : List (List Int)) (taken : Int) (hg : ∀ l ∈ rings, RG (N : Int) l) (hr : rings.length ≤ 64) :
    ∀ (m i cnt : Nat) (all : Nat), i + m = rings.length → all ≤ 1000 * i → m < cnt →
    iterO tourArcs_s1 cnt ((N : Int), (N : Int), rings, taken, (all : Int), (i : Int), ()) = some (.inr (.inl ((N : Int), (N : Int), rings, taken, ((all + vcount (N : Int) (rings.drop i).flatten : Nat) : Int), ()))) := by
  have hmany : 9223372036854775808 < many := by simp only [many]; omega
  intro m
  induction m with
  | zero =>
    intro i cnt all hi ha hc
    obtain ⟨cnt, rfl⟩ : ∃ c, cnt = c + 1 := ⟨cnt - 1, by omega⟩
    rw [iterO, tourArcs_s1, dlen_l, ilt_nat, decide_eq_false (by omega), List.drop_of_length_le (by omega)]
    rfl
  | succ m ih =>
    intro i cnt all hi ha hc
    obtain ⟨cnt, rfl⟩ : ∃ c, cnt = c + 1 := ⟨cnt - 1, by omega⟩
    have hi' : i < rings.length := by omega
    have hx : rings[i]? = some rings[i] := List.getElem?_eq_getElem hi'
    have hgl := hg _ (List.getElem_mem hi')
    rw [iterO, tourArcs_s1, dlen_l, ilt_nat, decide_eq_true hi', List.drop_eq_getElem_cons hi']
    simp only [iterL_eq]
    generalize rings[i] = l at *
    have hl := hgl.1.1
    have e := arcs_ring N h1 h2 rings taken (all : Int) i l hx hgl l.length 0 many (by omega) (by omega)
    have e' : iterO tourArcs_s2 many ((N : Int), (N : Int), rings, taken, (all : Int), (i : Int), (0 : Int), (0 : Int), ()) = _ := e
    simp only [e', idx_some hx, dlen_l]
    have hvc : vcount (N : Int) l ≤ l.length := by rw [vcount]; exact List.length_filter_le _ _
    have hlen : l.length + 2 = 3 * vcount (N : Int) l := by
      obtain ⟨L, q1, q2, q3⟩ := hgl.2.2.2
      rw [q1, vcount_vers q2, List.length_map]
      exact q3.len
    have w1 : IntKind.wrap .i64 ((3 : Int) * (vcount (N : Int) l : Int)) = ((3 * vcount (N : Int) l : Nat) : Int) := by rw [wrap_in (by omega)]; omega
    have w2 : IntKind.wrap .i64 (((3 * vcount (N : Int) l : Nat) : Int) - 2) = (l.length : Int) := by rw [wrap_in (by omega)]; omega
    rw [w1, w2, ieq_self]
    simp only [Bool.not_true]
    rw [wrap_add (by omega), wrap_add1 (by omega)]
    have hv3 : all + vcount (N : Int) l ≤ 1000 * (i + 1) := by omega
    have := ih (i + 1) cnt (all + vcount (N : Int) l) (by omega) hv3 (by omega)
    rw [this]
    have hf : vcount (N : Int) (l :: rings.drop (i + 1)).flatten = vcount (N : Int) l + vcount (N : Int) (rings.drop (i + 1)).flatten := by
      rw [List.flatten_cons, vcount, vcount, vcount, List.filter_append, List.length_append]
    rw [hf, Nat.add_assoc]

theorem vcount_all {N : Nat} {rings : List (List Int)} (h : FR (N : Int) rings) : vcount (N : Int) rings.flatten = N := by
  have hRF := RF_iff.2 h
  obtain ⟨q1, q2⟩ := okR_nodup hRF.2.1 (by simp)
  rw [List.nil_append] at q1
  rw [vcount]
  have hrn : ((List.range N).map (fun (k : Nat) => (k : Int))).Nodup := by
    rw [List.Nodup, List.pairwise_map]
    exact List.nodup_range.imp fun h e => h (by omega)
  have a1 := nodup_sub_len (b := (List.range N).map (fun (k : Nat) => (k : Int))) q1 fun x hx => by
    simp only [List.mem_filter, List.mem_flatten, decide_eq_true_eq] at hx
    obtain ⟨⟨l, hl, hxl⟩, hxn⟩ := hx
    have := ((q2 l hl).1.2.1 x hxl).1
    rw [List.mem_map]
    exact ⟨x.toNat, by rw [List.mem_range]; omega, by omega⟩
  have a2 := nodup_sub_len (b := rings.flatten.filter fun t => decide (t < (N : Int))) hrn fun x hx => by
    rw [List.mem_map] at hx
    obtain ⟨k, hk, rfl⟩ := hx
    rw [List.mem_range] at hk
    rw [List.mem_filter]
    exact ⟨hRF.2.2 (k : Int) (by omega) (by omega), by simp; omega⟩
  simp only [List.length_map, List.length_range] at a1 a2
  omega

theorem tourArcs_true (n : Int) (links : List (List Int)) (h0 : wfD (.int .u8) n) (h1 : wfD (.slice (.arr 2 (.int .u8))) links) : tourArcs (n, links, ()) = some (true, ()) := by
  have hmany : 9223372036854775808 < many := by simp only [many]; omega
  have hn : 0 ≤ n ∧ n ≤ 255 := h0
  obtain ⟨a, rfl⟩ := Int.eq_ofNat_of_zero_le hn.1
  rw [tourArcs_eq, tourArcs_d]
  simp only [alive18_true, Bool.not_true, dlen_l, ilt_eq]
  by_cases hl : 60 < links.length
  · rw [decide_eq_true (by omega)]
  · rw [decide_eq_false (by omega)]
    simp only []
    rw [wrap_in (n := (a : Int)) (by omega), show (12 : Int) = ((12 : Nat) : Int) from rfl, rem_nat (by omega)]
    simp only []
    have hk : IntKind.wrap .i64 ((1 : Int) + ((a % 12 : Nat) : Int)) = ((1 + a % 12 : Nat) : Int) := by rw [wrap_in (by omega)]; omega
    rw [hk]
    have hN1 : 1 ≤ 1 + a % 12 := by omega
    have hN2 : 1 + a % 12 ≤ 64 := by omega
    generalize 1 + a % 12 = N at *
    have hS : Sz (N : Int) := ⟨by omega, by omega⟩
    simp only [tmake_val, makeOut, hS, if_true, ieq_self, Bool.not_true, Int.toNat_natCast, iterL_eq]
    have hu : ∀ x ∈ links, ∀ k, 0 ≤ dget x k (0 : Int) ∧ dget x k (0 : Int) ≤ 255 := by
      intro x hx k
      have hxx := (h1.2 x hx).2
      rw [dget, List.getD_eq_getElem?_getD]
      cases hg : x[k]? with
      | none => simp
      | some y => exact hxx y (List.mem_of_getElem? hg)
    obtain ⟨rings, taken, e, hF, ht⟩ := arcs_links N hN1 hN2 links (by omega) hu links.length 0 many (singles N) 0 (by omega) (FR_singles hN1 hN2) (by rw [singles_len]; omega) (by omega)
    have e' : iterO tourArcs_s0 many (links, (N : Int), (N : Int), singles N, (0 : Int), (0 : Int), ()) = _ := e
    simp only [e']
    have e2 := arcs_rings N hN1 hN2 rings (taken : Int) hF.rg (by omega) rings.length 0 many 0 (by omega) (by omega) (by omega)
    have e2' : iterO tourArcs_s1 many ((N : Int), (N : Int), rings, (taken : Int), (0 : Int), (0 : Int), ()) = _ := e2
    simp only [e2']
    rw [List.drop_zero, vcount_all hF, Nat.zero_add, ieq_self]
    simp only []
    rw [wrap_sub (by omega), ieq_nat, decide_eq_true (by omega)]
    have hD := hF.dom
    simp only [tright_val (N : Int) rings hD.1 hD.2, RF_iff.2 hF, decide_true]
end Go.Pev.Pl
end
section
/- The models are what the program computes. Printed by a program. -/
namespace Go.Pev
open Go.Proofs
set_option maxRecDepth 100000
noncomputable section
-- archipelago/archipelagoref18.in
abbrev in18_h : Hints := {  }
theorem in18_okd : ∀ v, in18_d v = pevCall Try.prog Env.none in18_h Try.f70 in18_i in18_o in18_r v := by
  rintro ⟨a0, a1, ⟨⟩⟩
  kernel_rfl
theorem in18_q : loopList (bodyOf Try.f70) 0 = [] := by kernel_rfl
theorem in18_b : Try.f70.body.isSome = true := by kernel_rfl
theorem in18_n : (Try.f70.name == "runtime.NumGoroutine") = false := by kernel_rfl
theorem in18_ok (v : denL (leaves in18_i)) : in18 v = pevCall Try.prog Env.none in18_h Try.f70 in18_i in18_o in18_r v := (in18_eq v).trans (in18_okd v)
theorem in18_spec : SpecOK Try.prog 70 (mkCall 2 in18_i in18_o in18_r in18) := call_spec Env.none_ok Try.func70 in18_b in18_n rfl in18_ok (LoopsOK_of in18_q trivial)
def E_in18 : Env := Env.none.ext 70 true true (mkCall 2 in18_i in18_o in18_r in18)
theorem E_in18_ok : EnvOK Try.prog E_in18 := Env.ext_ok Env.none_ok in18_spec (fun _ => mkCall_local rfl rfl) (fun _ => mkCall_in rfl rfl)

-- archipelago/archipelagoref18.Token
abbrev token18_h : Hints := { fp := fun n => match n with | 5 => [[], [], [], [], [], [], [], [], [], [], [], []] | _ => [] }
theorem token18_okd : ∀ v, token18_d v = pevCall Try.prog E_in18 token18_h Try.f43 token18_i token18_o token18_r v := by
  rintro ⟨a0, a1, ⟨⟩⟩
  kernel_rfl
theorem token18_q : loopList (bodyOf Try.f43) 0 = [] := by kernel_rfl
theorem token18_b : Try.f43.body.isSome = true := by kernel_rfl
theorem token18_n : (Try.f43.name == "runtime.NumGoroutine") = false := by kernel_rfl
theorem token18_ok (v : denL (leaves token18_i)) : token18 v = pevCall Try.prog E_in18 token18_h Try.f43 token18_i token18_o token18_r v := (token18_eq v).trans (token18_okd v)
theorem token18_spec : SpecOK Try.prog 43 (mkCall 2 token18_i token18_o token18_r token18) := call_spec E_in18_ok Try.func43 token18_b token18_n rfl token18_ok (LoopsOK_of token18_q trivial)
def E_token18 : Env := E_in18.ext 43 true true (mkCall 2 token18_i token18_o token18_r token18)
theorem E_token18_ok : EnvOK Try.prog E_token18 := Env.ext_ok E_in18_ok token18_spec (fun _ => mkCall_local rfl rfl) (fun _ => mkCall_in rfl rfl)

-- archipelago/archipelagoref18.Vertex
abbrev vertex18_h : Hints := {  }
theorem vertex18_okd : ∀ v, vertex18_d v = pevCall Try.prog E_token18 vertex18_h Try.f47 vertex18_i vertex18_o vertex18_r v := by
  rintro ⟨a0, a1, ⟨⟩⟩
  kernel_rfl
theorem vertex18_q : loopList (bodyOf Try.f47) 0 = [] := by kernel_rfl
theorem vertex18_b : Try.f47.body.isSome = true := by kernel_rfl
theorem vertex18_n : (Try.f47.name == "runtime.NumGoroutine") = false := by kernel_rfl
theorem vertex18_ok (v : denL (leaves vertex18_i)) : vertex18 v = pevCall Try.prog E_token18 vertex18_h Try.f47 vertex18_i vertex18_o vertex18_r v := (vertex18_eq v).trans (vertex18_okd v)
theorem vertex18_spec : SpecOK Try.prog 47 (mkCall 2 vertex18_i vertex18_o vertex18_r vertex18) := call_spec E_token18_ok Try.func47 vertex18_b vertex18_n rfl vertex18_ok (LoopsOK_of vertex18_q trivial)
def E_vertex18 : Env := E_token18.ext 47 true true (mkCall 2 vertex18_i vertex18_o vertex18_r vertex18)
theorem E_vertex18_ok : EnvOK Try.prog E_vertex18 := Env.ext_ok E_token18_ok vertex18_spec (fun _ => mkCall_local rfl rfl) (fun _ => mkCall_in rfl rfl)

-- archipelago/archipelagoref18.Arc
abbrev arc18_h : Hints := {  }
theorem arc18_okd : ∀ v, arc18_d v = pevCall Try.prog E_vertex18 arc18_h Try.f49 arc18_i arc18_o arc18_r v := by
  rintro ⟨a0, a1, a2, ⟨⟩⟩
  kernel_rfl
theorem arc18_q : loopList (bodyOf Try.f49) 0 = [] := by kernel_rfl
theorem arc18_b : Try.f49.body.isSome = true := by kernel_rfl
theorem arc18_n : (Try.f49.name == "runtime.NumGoroutine") = false := by kernel_rfl
theorem arc18_ok (v : denL (leaves arc18_i)) : arc18 v = pevCall Try.prog E_vertex18 arc18_h Try.f49 arc18_i arc18_o arc18_r v := (arc18_eq v).trans (arc18_okd v)
theorem arc18_spec : SpecOK Try.prog 49 (mkCall 3 arc18_i arc18_o arc18_r arc18) := call_spec E_vertex18_ok Try.func49 arc18_b arc18_n rfl arc18_ok (LoopsOK_of arc18_q trivial)
def E_arc18 : Env := E_vertex18.ext 49 true true (mkCall 3 arc18_i arc18_o arc18_r arc18)
theorem E_arc18_ok : EnvOK Try.prog E_arc18 := Env.ext_ok E_vertex18_ok arc18_spec (fun _ => mkCall_local rfl rfl) (fun _ => mkCall_in rfl rfl)

-- archipelago/archipelagoref18.Make
abbrev make18_h : Hints := { loop := fun n => match n with | 0 => loopBy 0 28 make18_i0 make18_o0 make18_s0 | _ => fun _ _ _ => none }
theorem make18_s0_ok : ∀ v, make18_s0 v = roundOf Try.prog E_arc18 make18_h 1 0 28 (loopOf Try.f45 0) make18_i0 make18_o0 v := by
  rintro ⟨a0, a1, a2, a3, a4, ⟨⟩⟩
  kernel_rfl
theorem make18_q0 : loopList (loopOf Try.f45 0) 1 = [] := by kernel_rfl
theorem make18_l0 : CodeOK Try.prog 0 (.loop (loopOf Try.f45 0)) (make18_h.loop 0) := loop_ok E_arc18_ok (make18_s0_ok) (LoopsOK_of make18_q0 trivial)
theorem make18_okd : ∀ v, make18_d v = pevCall Try.prog E_arc18 make18_h Try.f45 make18_i make18_o make18_r v := by
  rintro ⟨a0, ⟨⟩⟩
  kernel_rfl
theorem make18_q : loopList (bodyOf Try.f45) 0 = [(0, loopOf Try.f45 0)] := by kernel_rfl
theorem make18_b : Try.f45.body.isSome = true := by kernel_rfl
theorem make18_n : (Try.f45.name == "runtime.NumGoroutine") = false := by kernel_rfl
theorem make18_ok (v : denL (leaves make18_i)) : make18 v = pevCall Try.prog E_arc18 make18_h Try.f45 make18_i make18_o make18_r v := (make18_eq v).trans (make18_okd v)
theorem make18_spec : SpecOK Try.prog 45 (mkCall 1 make18_i make18_o make18_r make18) := call_spec E_arc18_ok Try.func45 make18_b make18_n rfl make18_ok (LoopsOK_of make18_q ⟨make18_l0, trivial⟩)
def E_make18 : Env := E_arc18.ext 45 true true (mkCall 1 make18_i make18_o make18_r make18)
theorem E_make18_ok : EnvOK Try.prog E_make18 := Env.ext_ok E_arc18_ok make18_spec (fun _ => mkCall_local rfl rfl) (fun _ => mkCall_in rfl rfl)

-- archipelago/archipelagoref18.Great
abbrev great18_h : Hints := { loop := fun n => match n with | 0 => loopBy 0 33 great18_i0 great18_o0 great18_s0 | _ => fun _ _ _ => none }
theorem great18_s0_ok : ∀ v, great18_s0 v = roundOf Try.prog E_make18 great18_h 1 0 33 (loopOf Try.f32 0) great18_i0 great18_o0 v := by
  rintro ⟨a0, a1, a2, a3, a4, ⟨⟩⟩
  kernel_rfl
theorem great18_q0 : loopList (loopOf Try.f32 0) 1 = [] := by kernel_rfl
theorem great18_l0 : CodeOK Try.prog 0 (.loop (loopOf Try.f32 0)) (great18_h.loop 0) := loop_ok E_make18_ok (great18_s0_ok) (LoopsOK_of great18_q0 trivial)
theorem great18_okd : ∀ v, great18_d v = pevCall Try.prog E_make18 great18_h Try.f32 great18_i great18_o great18_r v := by
  rintro ⟨a0, a1, ⟨⟩⟩
  kernel_rfl
theorem great18_q : loopList (bodyOf Try.f32) 0 = [(0, loopOf Try.f32 0)] := by kernel_rfl
theorem great18_b : Try.f32.body.isSome = true := by kernel_rfl
theorem great18_n : (Try.f32.name == "runtime.NumGoroutine") = false := by kernel_rfl
theorem great18_ok (v : denL (leaves great18_i)) : great18 v = pevCall Try.prog E_make18 great18_h Try.f32 great18_i great18_o great18_r v := (great18_eq v).trans (great18_okd v)
theorem great18_spec : SpecOK Try.prog 32 (mkCall 2 great18_i great18_o great18_r great18) := call_spec E_make18_ok Try.func32 great18_b great18_n rfl great18_ok (LoopsOK_of great18_q ⟨great18_l0, trivial⟩)
def E_great18 : Env := E_make18.ext 32 true true (mkCall 2 great18_i great18_o great18_r great18)
theorem E_great18_ok : EnvOK Try.prog E_great18 := Env.ext_ok E_make18_ok great18_spec (fun _ => mkCall_local rfl rfl) (fun _ => mkCall_in rfl rfl)

-- archipelago/archipelagoref18.stands
abbrev stands18_h : Hints := {  }
theorem stands18_okd : ∀ v, stands18_d v = pevCall Try.prog E_great18 stands18_h Try.f105 stands18_i stands18_o stands18_r v := by
  rintro ⟨a0, a1, a2, ⟨⟩⟩
  kernel_rfl
theorem stands18_q : loopList (bodyOf Try.f105) 0 = [] := by kernel_rfl
theorem stands18_b : Try.f105.body.isSome = true := by kernel_rfl
theorem stands18_n : (Try.f105.name == "runtime.NumGoroutine") = false := by kernel_rfl
theorem stands18_ok (v : denL (leaves stands18_i)) : stands18 v = pevCall Try.prog E_great18 stands18_h Try.f105 stands18_i stands18_o stands18_r v := (stands18_eq v).trans (stands18_okd v)
theorem stands18_spec : SpecOK Try.prog 105 (mkCall 3 stands18_i stands18_o stands18_r stands18) := call_spec E_great18_ok Try.func105 stands18_b stands18_n rfl stands18_ok (LoopsOK_of stands18_q trivial)
def E_stands18 : Env := E_great18.ext 105 true true (mkCall 3 stands18_i stands18_o stands18_r stands18)
theorem E_stands18_ok : EnvOK Try.prog E_stands18 := Env.ext_ok E_great18_ok stands18_spec (fun _ => mkCall_local rfl rfl) (fun _ => mkCall_in rfl rfl)

-- archipelago/archipelagoref18.tree
abbrev tree18_h : Hints := { loop := fun n => match n with | 0 => loopBy 0 129 tree18_i0 tree18_o0 tree18_s0 | 1 => loopBy 0 129 tree18_i1 tree18_o1 tree18_s1 | 2 => loopBy 0 129 tree18_i2 tree18_o2 tree18_s2 | _ => fun _ _ _ => none, fp := fun n => match n with | 7 => [[], [], [0], [0], [], [], [], [], [0], [], [0], [0], [], [], [], [], [0], [], [0], [0], [], [], []] | _ => [] }
theorem tree18_s2_ok : ∀ v, tree18_s2 v = roundOf Try.prog E_stands18 tree18_h 3 0 129 (loopOf Try.f82 2) tree18_i2 tree18_o2 v := by
  rintro ⟨a0, a1, a2, a3, a4, a5, a6, a7, a8, a9, a10, a11, a12, a13, a14, a15, a16, a17, a18, a19, a20, a21, a22, a23, a24, a25, a26, a27, ⟨⟩⟩
  kernel_rfl
theorem tree18_q2 : loopList (loopOf Try.f82 2) 3 = [] := by kernel_rfl
theorem tree18_l2 : CodeOK Try.prog 0 (.loop (loopOf Try.f82 2)) (tree18_h.loop 2) := loop_ok E_stands18_ok (tree18_s2_ok) (LoopsOK_of tree18_q2 trivial)
theorem tree18_s1_ok : ∀ v, tree18_s1 v = roundOf Try.prog E_stands18 tree18_h 2 0 129 (loopOf Try.f82 1) tree18_i1 tree18_o1 v := by
  rintro ⟨a0, a1, a2, a3, ⟨⟩⟩
  kernel_rfl
theorem tree18_q1 : loopList (loopOf Try.f82 1) 2 = [(2, loopOf Try.f82 2)] := by kernel_rfl
theorem tree18_l1 : CodeOK Try.prog 0 (.loop (loopOf Try.f82 1)) (tree18_h.loop 1) := loop_ok E_stands18_ok (tree18_s1_ok) (LoopsOK_of tree18_q1 ⟨tree18_l2, trivial⟩)
theorem tree18_s0_ok : ∀ v, tree18_s0 v = roundOf Try.prog E_stands18 tree18_h 1 0 129 (loopOf Try.f82 0) tree18_i0 tree18_o0 v := by
  rintro ⟨a0, a1, ⟨⟩⟩
  kernel_rfl
theorem tree18_q0 : loopList (loopOf Try.f82 0) 1 = [(1, loopOf Try.f82 1)] := by kernel_rfl
theorem tree18_l0 : CodeOK Try.prog 0 (.loop (loopOf Try.f82 0)) (tree18_h.loop 0) := loop_ok E_stands18_ok (tree18_s0_ok) (LoopsOK_of tree18_q0 ⟨tree18_l1, trivial⟩)
theorem tree18_okd : ∀ v, tree18_d v = pevCall Try.prog E_stands18 tree18_h Try.f82 tree18_i tree18_o tree18_r v := by
  rintro ⟨a0, a1, ⟨⟩⟩
  kernel_rfl
theorem tree18_q : loopList (bodyOf Try.f82) 0 = [(0, loopOf Try.f82 0)] := by kernel_rfl
theorem tree18_b : Try.f82.body.isSome = true := by kernel_rfl
theorem tree18_n : (Try.f82.name == "runtime.NumGoroutine") = false := by kernel_rfl
theorem tree18_ok (v : denL (leaves tree18_i)) : tree18 v = pevCall Try.prog E_stands18 tree18_h Try.f82 tree18_i tree18_o tree18_r v := (tree18_eq v).trans (tree18_okd v)
theorem tree18_spec : SpecOK Try.prog 82 (mkCall 2 tree18_i tree18_o tree18_r tree18) := call_spec E_stands18_ok Try.func82 tree18_b tree18_n rfl tree18_ok (LoopsOK_of tree18_q ⟨tree18_l0, trivial⟩)
def E_tree18 : Env := E_stands18.ext 82 true true (mkCall 2 tree18_i tree18_o tree18_r tree18)
theorem E_tree18_ok : EnvOK Try.prog E_tree18 := Env.ext_ok E_stands18_ok tree18_spec (fun _ => mkCall_local rfl rfl) (fun _ => mkCall_in rfl rfl)

-- archipelago/archipelagoref13.Place
abbrev place13_h : Hints := { loop := fun n => match n with | 0 => loopBy 0 19 place13_i0 place13_o0 place13_s0 | _ => fun _ _ _ => none }
theorem place13_s0_ok : ∀ v, place13_s0 v = roundOf Try.prog E_tree18 place13_h 1 0 19 (loopOf Try.f50 0) place13_i0 place13_o0 v := by
  rintro ⟨a0, a1, a2, ⟨⟩⟩
  kernel_rfl
theorem place13_q0 : loopList (loopOf Try.f50 0) 1 = [] := by kernel_rfl
theorem place13_l0 : CodeOK Try.prog 0 (.loop (loopOf Try.f50 0)) (place13_h.loop 0) := loop_ok E_tree18_ok (place13_s0_ok) (LoopsOK_of place13_q0 trivial)
theorem place13_okd : ∀ v, place13_d v = pevCall Try.prog E_tree18 place13_h Try.f50 place13_i place13_o place13_r v := by
  rintro ⟨a0, a1, ⟨⟩⟩
  kernel_rfl
theorem place13_q : loopList (bodyOf Try.f50) 0 = [(0, loopOf Try.f50 0)] := by kernel_rfl
theorem place13_b : Try.f50.body.isSome = true := by kernel_rfl
theorem place13_n : (Try.f50.name == "runtime.NumGoroutine") = false := by kernel_rfl
theorem place13_ok (v : denL (leaves place13_i)) : place13 v = pevCall Try.prog E_tree18 place13_h Try.f50 place13_i place13_o place13_r v := (place13_eq v).trans (place13_okd v)
theorem place13_spec : SpecOK Try.prog 50 (mkCall 2 place13_i place13_o place13_r place13) := call_spec E_tree18_ok Try.func50 place13_b place13_n rfl place13_ok (LoopsOK_of place13_q ⟨place13_l0, trivial⟩)
def E_place13 : Env := E_tree18.ext 50 true true (mkCall 2 place13_i place13_o place13_r place13)
theorem E_place13_ok : EnvOK Try.prog E_place13 := Env.ext_ok E_tree18_ok place13_spec (fun _ => mkCall_local rfl rfl) (fun _ => mkCall_in rfl rfl)

-- archipelago/archipelagoref13.Right
abbrev right13_h : Hints := { loop := fun n => match n with | 0 => loopBy 0 36 right13_i0 right13_o0 right13_s0 | _ => fun _ _ _ => none, fp := fun n => match n with | 6 => [[], [], [], [], [], [], [], [], [], [], [], [], [], [], [], [], [], [], [], [], [], [], []] | _ => [] }
theorem right13_s0_ok : ∀ v, right13_s0 v = roundOf Try.prog E_place13 right13_h 1 0 36 (loopOf Try.f81 0) right13_i0 right13_o0 v := by
  rintro ⟨a0, a1, ⟨⟩⟩
  kernel_rfl
theorem right13_q0 : loopList (loopOf Try.f81 0) 1 = [] := by kernel_rfl
theorem right13_l0 : CodeOK Try.prog 0 (.loop (loopOf Try.f81 0)) (right13_h.loop 0) := loop_ok E_place13_ok (right13_s0_ok) (LoopsOK_of right13_q0 trivial)
theorem right13_okd : ∀ v, right13_d v = pevCall Try.prog E_place13 right13_h Try.f81 right13_i right13_o right13_r v := by
  rintro ⟨a0, ⟨⟩⟩
  kernel_rfl
theorem right13_q : loopList (bodyOf Try.f81) 0 = [(0, loopOf Try.f81 0)] := by kernel_rfl
theorem right13_b : Try.f81.body.isSome = true := by kernel_rfl
theorem right13_n : (Try.f81.name == "runtime.NumGoroutine") = false := by kernel_rfl
theorem right13_ok (v : denL (leaves right13_i)) : right13 v = pevCall Try.prog E_place13 right13_h Try.f81 right13_i right13_o right13_r v := (right13_eq v).trans (right13_okd v)
theorem right13_spec : SpecOK Try.prog 81 (mkCall 1 right13_i right13_o right13_r right13) := call_spec E_place13_ok Try.func81 right13_b right13_n rfl right13_ok (LoopsOK_of right13_q ⟨right13_l0, trivial⟩)
def E_right13 : Env := E_place13.ext 81 true true (mkCall 1 right13_i right13_o right13_r right13)
theorem E_right13_ok : EnvOK Try.prog E_right13 := Env.ext_ok E_place13_ok right13_spec (fun _ => mkCall_local rfl rfl) (fun _ => mkCall_in rfl rfl)

-- archipelago/archipelagoref13.From
abbrev from13_h : Hints := { fp := fun n => match n with | 4 => [[], [], [], [], [17], [], [], [], [19], [], []] | _ => [] }
theorem from13_okd : ∀ v, from13_d v = pevCall Try.prog E_right13 from13_h Try.f72 from13_i from13_o from13_r v := by
  rintro ⟨a0, a1, ⟨⟩⟩
  kernel_rfl
theorem from13_q : loopList (bodyOf Try.f72) 0 = [] := by kernel_rfl
theorem from13_b : Try.f72.body.isSome = true := by kernel_rfl
theorem from13_n : (Try.f72.name == "runtime.NumGoroutine") = false := by kernel_rfl
theorem from13_ok (v : denL (leaves from13_i)) : from13 v = pevCall Try.prog E_right13 from13_h Try.f72 from13_i from13_o from13_r v := (from13_eq v).trans (from13_okd v)
theorem from13_spec : SpecOK Try.prog 72 (mkCall 2 from13_i from13_o from13_r from13) := call_spec E_right13_ok Try.func72 from13_b from13_n rfl from13_ok (LoopsOK_of from13_q trivial)
def E_from13 : Env := E_right13.ext 72 true true (mkCall 2 from13_i from13_o from13_r from13)
theorem E_from13_ok : EnvOK Try.prog E_from13 := Env.ext_ok E_right13_ok from13_spec (fun _ => mkCall_local rfl rfl) (fun _ => mkCall_in rfl rfl)

-- archipelago/archipelagoref13.Plain
abbrev plain13_h : Hints := { loop := fun n => match n with | 0 => loopBy 0 37 plain13_i0 plain13_o0 plain13_s0 | _ => fun _ _ _ => none }
theorem plain13_s0_ok : ∀ v, plain13_s0 v = roundOf Try.prog E_from13 plain13_h 1 0 37 (loopOf Try.f83 0) plain13_i0 plain13_o0 v := by
  rintro ⟨a0, a1, a2, ⟨⟩⟩
  kernel_rfl
theorem plain13_q0 : loopList (loopOf Try.f83 0) 1 = [] := by kernel_rfl
theorem plain13_l0 : CodeOK Try.prog 0 (.loop (loopOf Try.f83 0)) (plain13_h.loop 0) := loop_ok E_from13_ok (plain13_s0_ok) (LoopsOK_of plain13_q0 trivial)
theorem plain13_okd : ∀ v, plain13_d v = pevCall Try.prog E_from13 plain13_h Try.f83 plain13_i plain13_o plain13_r v := by
  rintro ⟨a0, ⟨⟩⟩
  kernel_rfl
theorem plain13_q : loopList (bodyOf Try.f83) 0 = [(0, loopOf Try.f83 0)] := by kernel_rfl
theorem plain13_b : Try.f83.body.isSome = true := by kernel_rfl
theorem plain13_n : (Try.f83.name == "runtime.NumGoroutine") = false := by kernel_rfl
theorem plain13_ok (v : denL (leaves plain13_i)) : plain13 v = pevCall Try.prog E_from13 plain13_h Try.f83 plain13_i plain13_o plain13_r v := (plain13_eq v).trans (plain13_okd v)
theorem plain13_spec : SpecOK Try.prog 83 (mkCall 1 plain13_i plain13_o plain13_r plain13) := call_spec E_from13_ok Try.func83 plain13_b plain13_n rfl plain13_ok (LoopsOK_of plain13_q ⟨plain13_l0, trivial⟩)
def E_plain13 : Env := E_from13.ext 83 true true (mkCall 1 plain13_i plain13_o plain13_r plain13)
theorem E_plain13_ok : EnvOK Try.prog E_plain13 := Env.ext_ok E_from13_ok plain13_spec (fun _ => mkCall_local rfl rfl) (fun _ => mkCall_in rfl rfl)

end
end Go.Pev
end
