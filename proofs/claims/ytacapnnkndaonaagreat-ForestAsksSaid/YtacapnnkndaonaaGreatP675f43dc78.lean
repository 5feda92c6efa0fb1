/- A part of the proofs of this seat: Q19i T18d Q19j PevTake PevClaim Q19z SIa SIb SIc SId SBG19M SIe SIf Q19y Q19x G19P1 G19P2 G19P3 G19P4 G19P5. -/
import Derived.Test.YtacapnnkndaonaaGreatP1a1c3e5c0d
import Derived.ProofKit
import Derived.ChangeArms
import Derived.ReadAgain
import Derived.Deep.Slices
import Derived.OpenShut
import Derived.KernelRfl
import Derived.Test.YtacapnnkndaonaaGreatProg
set_option linter.unusedVariables false
set_option linter.unusedSimpArgs false
set_option linter.unusedSectionVars false
section
/- The document's Right is the same. -/
namespace Go.Pev.Pl
open Tok

def MB (N : Nat) (met : List Bool) (seen : List Int) : Prop := met.length = N ∧ ∀ k, k < N → met.getD k false = decide ((k : Int) ∈ seen)

theorem right18_inner (N : Nat) (hN : N ≤ 64) (l : List Int) (hl : l.length < 1073741824) (h0 : ∀ t ∈ l, 0 ≤ t) (d1 : List (List Int)) (d3 d5 : Int) (d8 : List Int) (d9 : Int) (d10 : Bool) (d11 : Int) (d12 : List Int) (d13 d14 : Bool) (d15 d16 : List Int) (d17 : List (List Int)) (d18 : List Int) (d19 : List (List Int)) (d20 d21 : Bool) (d22 : List Int) (d23 d24 : Int) (d25 : Bool) :
    ∀ (m k cnt : Nat) (met : List Bool) (seen : List Int), k + m = l.length → MB N met seen → (l.drop k).Nodup → seen.length + m < 4611686018427387904 → m < cnt →
    ((∀ t ∈ l.drop k, t < (N : Int) → t ∉ seen) ∧ ∃ met', iterO right18_s1 cnt ((N : Int), d1, met, d3, (seen.length : Int), d5, l, (k : Int), d8, d9, d10, d11, d12, d13, d14, d15, d16, d17, d18, d19, d20, d21, d22, d23, d24, d25, ()) =
        some (.inr (.inl ((N : Int), d1, met', d3, ((seen ++ (l.drop k).filter (fun t => decide (t < (N : Int)))).length : Int), d5, d8, d9, d10, d11, d12, d13, d14, d15, d16, d17, d18, d19, d20, d21, d22, d23, d24, d25, ()))) ∧ MB N met' (seen ++ (l.drop k).filter (fun t => decide (t < (N : Int))))) ∨
    (¬ (∀ t ∈ l.drop k, t < (N : Int) → t ∉ seen) ∧ iterO right18_s1 cnt ((N : Int), d1, met, d3, (seen.length : Int), d5, l, (k : Int), d8, d9, d10, d11, d12, d13, d14, d15, d16, d17, d18, d19, d20, d21, d22, d23, d24, d25, ()) = some (.inl (false, ()))) := by
  intro m
  induction m with
  | zero =>
    intro k cnt met seen hk hm hn hsl hc
    obtain ⟨cnt, rfl⟩ : ∃ c, cnt = c + 1 := ⟨cnt - 1, by omega⟩
    have e : l.drop k = [] := List.drop_of_length_le (by omega)
    rw [e]
    refine .inl ⟨by simp, met, ?_, by simpa using hm⟩
    rw [iterO, right18_s1, dlen_l, ilt_nat, decide_eq_false (by omega)]
    simp
  | succ m ih =>
    intro k cnt met seen hk hm hn hsl hc
    obtain ⟨cnt, rfl⟩ : ∃ c, cnt = c + 1 := ⟨cnt - 1, by omega⟩
    have hk' : k < l.length := by omega
    have e : l.drop k = l.getD k 0 :: l.drop (k + 1) := by
      rw [List.drop_eq_getElem_cons hk', List.getD_eq_getElem?_getD, List.getElem?_eq_getElem hk', Option.getD_some]
    have hpos : 0 ≤ l.getD k 0 := h0 _ (by rw [List.getD_eq_getElem?_getD, List.getElem?_eq_getElem hk', Option.getD_some]; exact List.getElem_mem hk')
    rw [iterO, right18_s1, dlen_l, ilt_nat, decide_eq_true hk']
    simp only [idx_l (0 : Int) hk']
    rw [e] at hn ⊢
    generalize l.getD k 0 = t at *
    rw [List.nodup_cons] at hn
    rw [wrap_add1 (show k + 1 < 9223372036854775808 by omega), ilt_eq]
    by_cases ht : t < (N : Int)
    · rw [decide_eq_true ht]
      obtain ⟨q, rfl⟩ := Int.eq_ofNat_of_zero_le hpos
      have hq : q < met.length := by rw [hm.1]; omega
      have hmq := hm.2 q (by omega)
      simp only [idx_l false hq, dget_l, dset_l, hmq]
      by_cases hs : (q : Int) ∈ seen
      · rw [decide_eq_true hs]
        exact .inr ⟨fun h => h (q : Int) (by simp) ht hs, rfl⟩
      · rw [decide_eq_false hs]
        simp only []
        have hm' : MB N (met.set q true) (seen ++ [(q : Int)]) := by
          refine ⟨by simp [hm.1], fun y hy => ?_⟩
          by_cases e2 : y = q
          · subst e2
            simp [List.getD_eq_getElem?_getD, hq]
          · have h3 := hm.2 y hy
            have e3 : ¬ (y : Int) = (q : Int) := by omega
            rw [List.getD_eq_getElem?_getD, List.getElem?_set_ne (Ne.symm e2), ← List.getD_eq_getElem?_getD, h3]
            simp [e3]
        have hlen : (((seen.length : Nat) : Int)) = ((seen.length : Nat) : Int) := rfl
        have hw : IntKind.wrap .i64 ((seen.length : Int) + 1) = ((seen ++ [(q : Int)]).length : Int) := by
          rw [wrap_in (by omega)]; simp
        rw [hw]
        have hiff : (∀ y ∈ (q : Int) :: l.drop (k + 1), y < (N : Int) → y ∉ seen) ↔ ∀ y ∈ l.drop (k + 1), y < (N : Int) → y ∉ seen ++ [(q : Int)] := by
          constructor
          · intro h y hy hyn hm2
            simp only [List.mem_append, List.mem_singleton] at hm2
            rcases hm2 with h2 | rfl
            · exact h y (List.mem_cons_of_mem _ hy) hyn h2
            · exact hn.1 hy
          · intro h y hy hyn hm2
            rcases List.mem_cons.1 hy with rfl | hy
            · exact hs hm2
            · exact h y hy hyn (by simp [hm2])
        rcases ih (k + 1) cnt _ _ (by omega) hm' hn.2 (by simp; omega) (by omega) with ⟨q1, met', q2, q3⟩ | ⟨q1, q2⟩
        · refine .inl ⟨hiff.2 q1, met', ?_, ?_⟩
          · rw [List.filter_cons_of_pos (by simpa using ht)]
            rw [q2, List.append_assoc]
            rfl
          · rw [List.filter_cons_of_pos (by simpa using ht)]
            simpa using q3
        · exact .inr ⟨fun h => q1 (hiff.1 h), q2⟩
    · rw [decide_eq_false ht]
      simp only []
      have hiff : (∀ y ∈ t :: l.drop (k + 1), y < (N : Int) → y ∉ seen) ↔ ∀ y ∈ l.drop (k + 1), y < (N : Int) → y ∉ seen := by
        constructor
        · intro h y hy; exact h y (List.mem_cons_of_mem _ hy)
        · intro h y hy hyn
          rcases List.mem_cons.1 hy with rfl | hy
          · exact absurd hyn ht
          · exact h y hy hyn
      rcases ih (k + 1) cnt _ _ (by omega) hm hn.2 (by omega) (by omega) with ⟨q1, met', q2, q3⟩ | ⟨q1, q2⟩
      · refine .inl ⟨hiff.2 q1, met', ?_, ?_⟩
        · rw [List.filter_cons_of_neg (by simpa using ht)]
          exact q2
        · rw [List.filter_cons_of_neg (by simpa using ht)]
          exact q3
      · exact .inr ⟨fun h => q1 (hiff.1 h), q2⟩

/-- as it is least: it begins with its least token -/
theorem plain_self {xs : List Int} (hr : Rt xs) (h : xs ≠ []) : plain xs = xs ↔ minL xs = xs.headD 0 := by
  obtain ⟨a, b, h1, h2⟩ := plain_nonempty hr h
  constructor
  · intro e
    rw [e] at h2
    rw [h2]
    have : minL xs = minL xs := rfl
    conv => lhs; rw [← h2]
    rfl
  · intro e
    cases a with
    | nil => rw [h2, List.append_nil]; exact h1.symm
    | cons y a =>
      exfalso
      have hn := hr.2.2
      have hy : y = minL xs := by rw [e, h1]; rfl
      rw [h1, List.cons_append, List.nodup_cons] at hn
      exact hn.1 (by rw [← hy]; simp)

theorem right18_s0_loop (N : Nat) (hN1 : 1 ≤ N) (hN : N ≤ 64) (rings : List (List Int)) (hlen : rings.length ≤ 64) (hr : ∀ l ∈ rings, l.length < 9223372036854775808 ∧ ∀ x ∈ l, -9223372036854775808 ≤ x ∧ x ≤ 9223372036854775807) :
    ∀ (ls : List (List Int)) (i cnt : Nat) (met : List Bool) (last : Int) (seen : List Int), rings.drop i = ls → i ≤ rings.length → MB N met seen → seen.length ≤ i * 1073741824 → ls.length < cnt →
    (okR (N : Int) seen last ls ∧ ∃ met' seen', iterO right18_s0 cnt ((N : Int), rings, met, last, (seen.length : Int), (i : Int), ()) = some (.inr (.inl ((N : Int), rings, (seen'.length : Int), ()))) ∧ MB N met' seen' ∧ seen' = seen ++ ls.flatten.filter (fun t => decide (t < (N : Int)))) ∨
    (¬ okR (N : Int) seen last ls ∧ iterO right18_s0 cnt ((N : Int), rings, met, last, (seen.length : Int), (i : Int), ()) = some (.inl (false, ()))) := by
  have hmany : 4294967296 < many := by simp only [many]; omega
  intro ls
  induction ls with
  | nil =>
    intro i cnt met last seen hd hi hm hsl hc
    obtain ⟨cnt, rfl⟩ : ∃ c, cnt = c + 1 := ⟨cnt - 1, by simp at hc; omega⟩
    have : rings.length ≤ i := by simpa using hd
    refine .inl ⟨trivial, met, seen, ?_, hm, by simp⟩
    rw [iterO, right18_s0, dlen_l, ilt_nat, decide_eq_false (by omega)]
  | cons l ls ih =>
    intro i cnt met last seen hd hi hm hsl hc
    simp only [List.length_cons] at hc
    obtain ⟨cnt, rfl⟩ : ∃ c, cnt = c + 1 := ⟨cnt - 1, by omega⟩
    have hi' : i < rings.length := by
      refine Classical.byContradiction fun h => ?_
      rw [List.drop_of_length_le (by omega)] at hd
      cases hd
    rw [List.drop_eq_getElem_cons hi'] at hd
    simp only [List.cons.injEq] at hd
    obtain ⟨hd1, hd2⟩ := hd
    have hx : rings[i]? = some l := by rw [List.getElem?_eq_getElem hi', hd1]
    have hmem : l ∈ rings := List.mem_of_getElem? hx
    obtain ⟨hl, hlr⟩ := hr l hmem
    rw [iterO, right18_s0, dlen_l, ilt_nat, decide_eq_true hi', okR]
    simp only [idx_some hx, right13_val]
    by_cases c2 : Rt l
    · rw [decide_eq_true c2]
      have hl : l.length < 1073741824 := by have := c2.1; omega
      simp only [Bool.not_true]
      cases l with
      | nil =>
        rw [dlen_l, ieq_dec, decide_eq_true (by simp)]
        exact .inr ⟨fun h => h.1.2.1 rfl, rfl⟩
      | cons x tl =>
        rw [dlen_l, ieq_dec, decide_eq_false (by simp only [List.length_cons]; omega)]
        simp only [tree18_val (N : Int) (x :: tl) hl hlr c2.2.2]
        by_cases c4 : TI (N : Int) (x :: tl)
        · rw [decide_eq_true c4]
          simp only [Bool.not_true, plain13_val]
          rw [lists14_val _ _ (by simp) (by
            intro y hy
            simp only [List.mem_singleton] at hy
            subst hy
            obtain ⟨a, b, q1, q2⟩ := plain_nonempty c2 (by simp)
            have := congrArg List.length q1
            rw [q2]
            simp only [List.length_cons, List.length_append] at this hl ⊢
            omega)]
          have hps := plain_self c2 (by simp)
          have hps2 : ([plain (x :: tl)] = [x :: tl]) ↔ minL (x :: tl) = x := by simpa using hps
          by_cases c3 : minL (x :: tl) = x
          · rw [decide_eq_true (hps2.2 c3)]
            have i0 : idx (x :: tl) (0 : Int) = some x := by rw [idx_zero]; rfl
            simp only [Bool.not_true, i0, List.headD_cons, ile_eq]
            by_cases c1 : x ≤ last
            · rw [decide_eq_true c1]
              exact .inr ⟨fun h => by omega, rfl⟩
            · rw [decide_eq_false c1]
              simp only [iterL_eq]
              have hRG : RG (N : Int) (x :: tl) := ⟨c2, by simp, c3, c4⟩
              rcases right18_inner N hN (x :: tl) hl (fun t ht => (c2.2.1 t ht).1) rings x (i : Int) (x :: tl) ((x :: tl).length : Int) false (N : Int) (x :: tl) true false (x :: tl) (plain (x :: tl)) [plain (x :: tl)] (x :: tl) [x :: tl] true false (x :: tl) x last false (x :: tl).length 0 many met seen (by omega) hm (by rw [List.drop_zero]; exact c2.2.2) (by omega) (by omega) with ⟨q1, met', q2, q3⟩ | ⟨q1, q2⟩
              · rw [List.drop_zero] at q1 q3 q2
                have q2' : iterO right18_s1 many ((N : Int), rings, met, x, (seen.length : Int), (i : Int), x :: tl, (0 : Int), x :: tl, ((x :: tl).length : Int), false, (N : Int), x :: tl, true, false, x :: tl, plain (x :: tl), [plain (x :: tl)], x :: tl, [x :: tl], true, false, x :: tl, x, last, false, ()) = _ := q2
                simp only [q2', wrap_add1 (show i + 1 < 9223372036854775808 by omega)]
                have hfl : ((x :: tl).filter (fun t => decide (t < (N : Int)))).length ≤ (x :: tl).length := List.length_filter_le _ _
                rcases ih (i + 1) cnt met' x (seen ++ (x :: tl).filter (fun t => decide (t < (N : Int)))) hd2 (by omega) q3 (by rw [List.length_append]; omega) (by omega) with ⟨p1, met2, seen2, p2, p3, p4⟩ | ⟨p1, p2⟩
                · refine .inl ⟨⟨hRG, by omega, q1, p1⟩, met2, seen2, p2, p3, ?_⟩
                  rw [p4, List.flatten_cons, List.filter_append, List.append_assoc]
                · exact .inr ⟨fun h => p1 h.2.2.2, p2⟩
              · rw [List.drop_zero] at q1
                have q2' : iterO right18_s1 many ((N : Int), rings, met, x, (seen.length : Int), (i : Int), x :: tl, (0 : Int), x :: tl, ((x :: tl).length : Int), false, (N : Int), x :: tl, true, false, x :: tl, plain (x :: tl), [plain (x :: tl)], x :: tl, [x :: tl], true, false, x :: tl, x, last, false, ()) = _ := q2
                simp only [q2']
                exact .inr ⟨fun h => q1 h.2.2.1, by trivial⟩
          · rw [decide_eq_false (fun h => c3 (hps2.1 h))]
            exact .inr ⟨fun h => c3 h.1.2.2.1, rfl⟩
        · rw [decide_eq_false c4]
          exact .inr ⟨fun h => c4 h.1.2.2.2, rfl⟩
    · rw [decide_eq_false c2]
      exact .inr ⟨fun h => c2 h.1.1, rfl⟩

/-- vertices that are seen: each once -/
theorem okR_nodup {n : Int} : ∀ {ls : List (List Int)} {seen : List Int} {last : Int}, okR n seen last ls → seen.Nodup → (seen ++ ls.flatten.filter (fun t => decide (t < n))).Nodup ∧ ∀ l ∈ ls, RG n l := by
  intro ls
  induction ls with
  | nil => intro seen last _ h; simpa using h
  | cons l ls ih =>
    intro seen last ⟨h1, h2, h3, h4⟩ hs
    obtain ⟨g1, g2⟩ := ih h4 (by
      rw [List.nodup_append]
      refine ⟨hs, (h1.1.2.2).filter _, fun a ha b hb => ?_⟩
      rintro rfl
      simp only [List.mem_filter, decide_eq_true_eq] at hb
      exact h3 a hb.1 hb.2 ha)
    refine ⟨by rw [List.flatten_cons, List.filter_append, ← List.append_assoc]; exact g1, fun k hk => ?_⟩
    rcases List.mem_cons.1 hk with rfl | hk
    · exact h1
    · exact g2 k hk
theorem RG_head {n : Int} {l : List Int} (h : RG n l) : In n (l.headD 0) := by
  obtain ⟨h1, h2, h3, h4⟩ := h
  cases l with
  | nil => exact absurd rfl h2
  | cons x l => exact TI_head h4 h3
theorem okR_len {n : Int} (hn : 1 ≤ n) : ∀ {ls : List (List Int)} {seen : List Int} {last : Int}, okR n seen last ls → -1 ≤ last → last < n → (ls.length : Int) ≤ n - 1 - last := by
  intro ls
  induction ls with
  | nil => intro seen last _ _ h; simp; omega
  | cons l ls ih =>
    intro seen last ⟨h1, h2, h3, h4⟩ hl hl2
    have hh := (RG_head h1).2.2
    have := ih h4 (by omega) hh.2
    simp only [List.length_cons]
    omega

theorem right18_val (n : Int) (rings : List (List Int)) (hlen : rings.length < 1073741824) (hr : ∀ l ∈ rings, l.length < 9223372036854775808 ∧ ∀ x ∈ l, -9223372036854775808 ≤ x ∧ x ≤ 9223372036854775807) :
    right18 ((n, (rings, ())), ()) = some (decide (RF n rings), ()) := by
  have hmany : 4294967296 < many := by simp only [many]; omega
  rw [right18_eq, right18_d]
  simp only [ilt_eq, dlen_l]
  by_cases h1 : n < 1
  · rw [decide_eq_true h1, decide_eq_false (show ¬ RF n rings from fun h => by have := h.1.1; omega)]
  · rw [decide_eq_false h1]
    simp only []
    by_cases h2 : 64 < n
    · rw [decide_eq_true h2, decide_eq_false (show ¬ RF n rings from fun h => by have := h.1.2; omega)]
    · rw [decide_eq_false h2]
      simp only []
      by_cases h3 : n < (rings.length : Int)
      · rw [decide_eq_true h3, decide_eq_false (show ¬ RF n rings from fun h => by
          have := okR_len (by omega) h.2.1 (by omega) (by omega)
          omega)]
      · rw [decide_eq_false h3]
        obtain ⟨N, rfl⟩ := Int.eq_ofNat_of_zero_le (show 0 ≤ n by omega)
        have f1 : fitsI (N : Int) = true := (fitsI_iff _).2 (by omega)
        have f2 : ile (N : Int) (N : Int) = true := by rw [ile_eq]; simp
        simp only [f1, f2, Bool.and_self, Bool.and_true, iterL_eq]
        have hMB : MB N (drep (dnat (N : Int)) false) [] := by
          refine ⟨by simp [drep, dnat_l], fun k hk => ?_⟩
          simp [drep, dnat_l, hk]
        rcases right18_s0_loop N (by omega) (by omega) rings (by omega) hr rings 0 many _ (-1) [] (by simp) (by omega) hMB (by simp) (by omega) with ⟨p1, met, seen, p2, p3, p4⟩ | ⟨p1, p2⟩
        · have p2' : iterO right18_s0 many ((N : Int), rings, drep (dnat (N : Int)) false, -1, (0 : Int), (0 : Int), ()) = _ := p2
          simp only [p2', ieq_dec]
          obtain ⟨q1, q2⟩ := okR_nodup p1 (by simp)
          rw [← p4] at q1
          have hsub : ∀ x ∈ seen, x ∈ (List.range N).map (fun (k : Nat) => (k : Int)) := by
            intro x hx
            rw [p4] at hx
            simp only [List.nil_append, List.mem_filter, List.mem_flatten, decide_eq_true_eq] at hx
            obtain ⟨⟨l, hl, hxl⟩, hxn⟩ := hx
            have := ((q2 l hl).1.2.1 x hxl).1
            rw [List.mem_map]
            exact ⟨x.toNat, by rw [List.mem_range]; omega, by omega⟩
          have hv : ∀ v, v ∈ seen ↔ (v < (N : Int) ∧ v ∈ rings.flatten) := fun v => by rw [p4, List.nil_append, List.mem_filter, decide_eq_true_eq, and_comm]
          have hS : Sz (N : Int) := ⟨by omega, by omega⟩
          by_cases hc : (seen.length : Int) = (N : Int)
          · rw [decide_eq_true hc, decide_eq_true]
            refine ⟨hS, p1, fun v v1 v2 => ?_⟩
            have := nodup_sub_eq q1 hsub (by simp; omega) v (by rw [List.mem_map]; exact ⟨v.toNat, by rw [List.mem_range]; omega, by omega⟩)
            exact ((hv v).1 this).2
          · rw [decide_eq_false hc, decide_eq_false]
            rintro ⟨_, _, h⟩
            have a1 := nodup_sub_len q1 hsub
            have hrn : ((List.range N).map (fun (k : Nat) => (k : Int))).Nodup := by
              rw [List.Nodup, List.pairwise_map]
              exact List.nodup_range.imp fun h e => h (by omega)
            have a2 := nodup_sub_len (a := (List.range N).map (fun (k : Nat) => (k : Int))) (b := seen) hrn fun x hx => by
              rw [List.mem_map] at hx
              obtain ⟨k, hk, rfl⟩ := hx
              rw [List.mem_range] at hk
              exact (hv _).2 ⟨by omega, h (k : Int) (by omega) (by omega)⟩
            simp only [List.length_map, List.length_range] at a1 a2
            omega
        · have p2' : iterO right18_s0 many ((N : Int), rings, drep (dnat (N : Int)) false, -1, (0 : Int), (0 : Int), ()) = _ := p2
          simp only [p2']
          rw [decide_eq_false (fun h => p1 h.2.1)]
end Go.Pev.Pl
end
section
/- Two rounds are joined by an arc and its way back; and parted again. No program in sight. -/
namespace Go.Pev.Pl.Tok

theorem goes_T0 {v : Int} {p : List Tok} {c : List Int} (h : run ([v], [v]) p = some ([v], c)) (hc : ∀ x ∈ c, Tok.ver x ∈ p) (hn : p.Nodup) : T p := by
  cases p with
  | nil =>
    cases h
    have := hc v (by simp)
    cases this
  | cons t p =>
    have h' := h
    rw [run_cons, Option.bind_eq_some_iff] at h'
    obtain ⟨s1, h1, h2⟩ := h'
    rcases step_cases h1 with ⟨y, r, rfl, hw, rfl⟩ | ⟨a, b, r, rfl, hw, rfl⟩ | ⟨a, b, r, rfl, hw, hh, hnc, rfl⟩
    · simp only [List.cons.injEq] at hw
      obtain ⟨rfl, rfl⟩ := hw
      exact Goes.toT ⟨_, p, c, rfl, h, hc⟩ hn
    · simp at hw
    · simp only [List.cons.injEq] at hw
      obtain ⟨rfl, rfl⟩ := hw
      simp only at hnc
      have hne : v ≠ b := by rintro rfl; exact hnc (by simp)
      have hT : T ([Tok.arc v b] ++ comp [Tok.arc v b] [b, v]) := by
        have : comp [Tok.arc v b] [b, v] = [.ver b, .arc b v, .ver v] := by simp [comp]
        rw [this]
        have h3 := T.add (.ver v) [] b (T.one v) hne (by simp; exact Ne.symm hne)
        exact T.rot [.ver v] [.arc v b, .ver b, .arc b v] h3
      have := goes_T p [.arc v b] [b, v] [b, v] c v (.arc v b) h2 ⟨by simp; exact Ne.symm hne, by simp⟩ (by simp) rfl hT (by
        intro x hx
        have e : comp [Tok.arc v b] [b, v] = [.ver b, .arc b v, .ver v] := by simp [comp]
        rw [e] at hx
        simp at hx
        simp [hx]) hc hn
      exact this

theorem T.join {u v : Int} {a b : List Tok} (hA : T (.ver u :: a)) (hB : T (.ver v :: b)) (hd : ∀ x, Tok.ver x ∈ Tok.ver u :: a → Tok.ver x ∉ Tok.ver v :: b) :
    T (.ver u :: .arc u v :: (.ver v :: b ++ .arc v u :: a)) := by
  obtain ⟨_, fA2, fA3⟩ := hA.facts
  obtain ⟨_, fB2, fB3⟩ := hB.facts
  have nA := hA.nodup
  have nB := hB.nodup
  obtain ⟨_, _, c1, e1, h1, m1⟩ := hA.toGoes
  cases e1
  obtain ⟨_, _, c2, e2, h2, m2⟩ := hB.toGoes
  cases e2
  have huv : u ≠ v := by rintro rfl; exact hd u (by simp) (by simp)
  have nAB : ∀ t, t ∈ Tok.ver u :: a → t ∉ Tok.ver v :: b := fun t ht hb => hd _ (fA2 t ht) (fB2 t hb)
  have n1 : Tok.arc u v ∉ Tok.ver u :: a := fun h => hd v (fA3 _ _ h).2.1 (by simp)
  have n2 : Tok.arc u v ∉ Tok.ver v :: b := fun h => hd u (by simp) (fB3 _ _ h).1
  have n3 : Tok.arc v u ∉ Tok.ver u :: a := fun h => hd v (fA3 _ _ h).1 (by simp)
  have n4 : Tok.arc v u ∉ Tok.ver v :: b := fun h => hd u (by simp) (fB3 _ _ h).2.1
  have hnd : (Tok.ver u :: .arc u v :: (.ver v :: b ++ .arc v u :: a)).Nodup := by
    rw [List.nodup_cons] at nA
    have q1 : Tok.ver u ∉ Tok.ver v :: b := nAB _ (by simp)
    rw [List.nodup_cons, List.nodup_cons, List.nodup_append, List.nodup_cons (a := Tok.arc v u)]
    refine ⟨?_, ?_, nB, ⟨fun h => n3 (List.mem_cons_of_mem _ h), nA.2⟩, fun x hx y hy => ?_⟩
    · intro h
      rcases List.mem_cons.1 h with h | h
      · cases h
      · rcases List.mem_append.1 h with h | h
        · exact q1 h
        · rcases List.mem_cons.1 h with h | h
          · cases h
          · exact nA.1 h
    · intro h
      rcases List.mem_append.1 h with h | h
      · exact n2 h
      · rcases List.mem_cons.1 h with h | h
        · cases h; exact huv rfl
        · exact n1 (List.mem_cons_of_mem _ h)
    · rintro rfl
      rcases List.mem_cons.1 hy with h | h
      · subst h; exact n4 hx
      · exact nAB x (List.mem_cons_of_mem _ h) hx
  rw [run_cons, step_ver, Option.bind_some] at h1
  obtain ⟨d2, k1, k2⟩ := run_frame (Z := (· = u)) (c2 := [v, u]) (low := [u]) h2 (by simp) (fun y => by simp) (fun p w hm => by rintro rfl; exact hd w (by simp) (fB3 _ _ hm).2.1) (by simp)
  obtain ⟨d3, g1, g2⟩ := run_frame (Z := (· ∈ c2)) (c2 := d2) (low := []) h1 (by simp) (fun y => by rw [k2]; simp [or_comm]) (fun p w hm hz => hd w (fA3 _ _ (List.mem_cons_of_mem _ hm)).2.1 (m2 w hz)) (by simp)
  refine Goes.toT ⟨u, _, d3, rfl, ?_, fun x hx => ?_⟩ hnd
  · rw [run_cons, step_ver, Option.bind_some, run_cons, step_push _ _ _ _ (by simp) (by simp; exact Ne.symm huv), Option.bind_some, run_append]
    rw [show ([v] ++ [u] : List Int) = [v, u] from rfl] at k1
    rw [k1, Option.bind_some, run_cons, step_pop, Option.bind_some]
    simpa using g1
  · rcases (g2 x).1 hx with h | h
    · have := m1 x h
      simp only [List.mem_cons, List.mem_append] at this ⊢
      rcases this with h | h <;> simp [h]
    · have := m2 x h
      simp only [List.mem_cons, List.mem_append] at this ⊢
      rcases this with h | h <;> simp [h]

theorem run_un {u v : Int} (huv : u ≠ v) : ∀ {l : List Tok} {x w1 c c1 c0 : List Int}, run (x ++ [v, u], c) l = some (w1, c1) → Tok.arc v u ∉ l → (∀ y, y ∈ c ↔ y ∈ c0 ∨ y = u) → u ∉ c0 →
    ∃ x' d, w1 = x' ++ [v, u] ∧ run (x ++ [v], c0) l = some (x' ++ [v], d) ∧ (∀ y, y ∈ c1 ↔ y ∈ d ∨ y = u) ∧ u ∉ d := by
  intro l
  induction l with
  | nil => intro x w1 c c1 c0 h _ hc hu; cases h; exact ⟨x, c0, rfl, rfl, hc, hu⟩
  | cons t l ih =>
    intro x w1 c c1 c0 h hna hc hu
    rw [run_cons, Option.bind_eq_some_iff] at h
    obtain ⟨s1, h1, h2⟩ := h
    have hna' : Tok.arc v u ∉ l := fun h => hna (List.mem_cons_of_mem _ h)
    rcases step_cases h1 with ⟨y, r, rfl, hw, rfl⟩ | ⟨a, b, r, rfl, hw, rfl⟩ | ⟨a, b, r, rfl, hw, hh, hnc, rfl⟩
    · obtain ⟨x', d, g1, g2, g3⟩ := ih h2 hna' hc hu
      refine ⟨x', d, g1, ?_, g3⟩
      simp only at hw
      have : ∃ r', x ++ [v] = y :: r' := by
        cases x with
        | nil => simp at hw; exact ⟨[], by simp [hw.1]⟩
        | cons z x => simp at hw; exact ⟨x ++ [v], by simp [hw.1]⟩
      obtain ⟨r', e⟩ := this
      rw [run_cons, e, step_ver, Option.bind_some, ← e]
      exact g2
    · simp only at hw
      cases x with
      | nil =>
        simp only [List.nil_append, List.cons.injEq] at hw
        obtain ⟨rfl, rfl, _⟩ := hw
        exact absurd (by simp) hna
      | cons z x =>
        simp only [List.cons_append, List.cons.injEq] at hw
        obtain ⟨rfl, hw⟩ := hw
        simp only [← hw] at h2
        obtain ⟨x', d, g1, g2, g3⟩ := ih h2 hna' hc hu
        refine ⟨x', d, g1, ?_, g3⟩
        have : ∃ r', x ++ [v] = b :: r' := by
          cases x with
          | nil => simp at hw; exact ⟨[], by simp [hw.1]⟩
          | cons y x => simp at hw; exact ⟨x ++ [v], by simp [hw.1]⟩
        obtain ⟨r', e⟩ := this
        rw [run_cons, List.cons_append, e, step_pop, Option.bind_some, ← e]
        exact g2
    · simp only at hw hnc
      have hub : u ≠ b := by rintro rfl; exact hnc ((hc u).2 (.inr rfl))
      have hbc : b ∉ c0 := fun h => hnc ((hc b).2 (.inl h))
      have h2' : run ((b :: x) ++ [v, u], b :: c) l = some (w1, c1) := by
        rw [← hw] at h2
        exact h2
      obtain ⟨x', d, g1, g2, g3⟩ := ih (c0 := b :: c0) h2' hna' (fun y => by simp only [List.mem_cons, hc, or_assoc]) (by
        intro hm
        rcases List.mem_cons.1 hm with h | h
        · exact hub h
        · exact hu h)
      refine ⟨x', d, g1, ?_, g3⟩
      have : ∃ r', x ++ [v] = a :: r' ∧ r'.head? ≠ some b := by
        cases x with
        | nil =>
          simp at hw
          exact ⟨[], by simp [hw.1], by simp⟩
        | cons z x =>
          simp only [List.cons_append, List.cons.injEq] at hw
          refine ⟨x ++ [v], by simp [hw.1], ?_⟩
          rw [← hw.2] at hh
          cases x with
          | nil => simpa using hh
          | cons y x => simpa using hh
      obtain ⟨r', e, e2⟩ := this
      rw [run_cons, e, step_push _ _ _ _ e2 hbc, Option.bind_some, ← e]
      exact g2

theorem T.split {u v : Int} {p q : List Tok} (h : T (.arc u v :: (p ++ .arc v u :: q))) : T p ∧ Tok.ver v ∈ p := by
  have hn := h.nodup
  obtain ⟨_, f2, f3⟩ := h.facts
  have huv : u ≠ v := (f3 u v (by simp)).2.2.2
  obtain ⟨t, ht⟩ : ∃ t, (Tok.arc u v :: (p ++ .arc v u :: q)).getLast? = some t := ⟨_, List.getLast?_eq_some_getLast (by simp)⟩
  obtain ⟨c, h1, h2⟩ := h.toC _ (Rot.refl _) t ht
  rw [run_cons, Option.bind_eq_some_iff] at h1
  obtain ⟨s1, k1, k2⟩ := h1
  rcases step_cases k1 with ⟨y, r, e, hw, _⟩ | ⟨a, b, r, e, hw, _⟩ | ⟨a, b, r, e, hw, hh, hnc, rfl⟩
  · cases e
  · cases e; simp at hw
  · cases e
    simp only [List.cons.injEq] at hw
    obtain ⟨htu, rfl⟩ := hw
    rw [htu] at k2
    simp only at k2
    rw [run_append, Option.bind_eq_some_iff] at k2
    obtain ⟨⟨w1, c1⟩, g1, g2⟩ := k2
    have hi : Inv ([v, u], [v, u]) := ⟨by simp; exact Ne.symm huv, by simp⟩
    obtain ⟨i1, i2, _⟩ := run_inv g1 hi
    rw [List.nodup_cons, List.nodup_append, List.nodup_cons (a := Tok.arc v u)] at hn
    have hnp : Tok.arc v u ∉ p := fun hm => hn.2.2.2 _ hm _ (by simp) rfl
    obtain ⟨x', d, e1, e2, e3, e4⟩ := run_un (x := []) (c0 := [v]) huv g1 hnp (fun y => by simp) (by simp; exact huv)
    rw [run_cons, Option.bind_eq_some_iff] at g2
    obtain ⟨s2, j1, j2⟩ := g2
    have hx' : x' = [] ∧ s2 = ([u], c1) := by
      rcases step_cases j1 with ⟨y, r, e, hw, _⟩ | ⟨a, b, r, e, hw, hs⟩ | ⟨a, b, r, e, hw, hh, hnc, _⟩
      · cases e
      · cases e
        simp only at hw
        rw [e1] at hw
        cases x' with
        | nil =>
          simp only [List.nil_append, List.cons.injEq, true_and] at hw
          rw [hs, ← hw]
          exact ⟨rfl, rfl⟩
        | cons z x' =>
          exfalso
          have hnd := i1.1
          simp only at hnd
          rw [e1, hw] at hnd
          simp only [List.cons_append, List.cons.injEq] at hw
          have : v ∈ u :: r := by rw [← hw.2]; simp
          rw [List.nodup_cons] at hnd
          exact hnd.1 this
      · cases e
        exact absurd (i2 u (by simp)) hnc
    obtain ⟨rfl, rfl⟩ := hx'
    have hmet : ∀ x ∈ d, Tok.ver x ∈ p := by
      intro x hx
      have hxu : x ≠ u := by rintro rfl; exact e4 hx
      have hx1 : x ∈ c1 := (e3 x).2 (.inl hx)
      have hi2 : Inv ([u], c1) := ⟨by simp, fun y hy => by simp at hy; subst hy; exact i2 y (by simp)⟩
      have hx2 := (run_inv j2 hi2).2.1 x hx1
      have hx3 := (h2 x).1 hx2
      obtain ⟨g, _⟩ := run_less (z := x) (c := c1.filter (· ≠ x)) j2 (by simp; exact hxu) (fun y => by
        simp only [List.mem_filter, decide_eq_true_eq]
        constructor
        · intro hh
          by_cases e : y = x
          · exact .inr e
          · exact .inl ⟨hh, by simpa using e⟩
        · rintro (hh | rfl)
          · exact hh.1
          · exact hx1) (by simp)
      simp only [List.mem_cons, reduceCtorEq, List.mem_append, false_or] at hx3
      rcases hx3 with hh | hh
      · exact hh
      · exact absurd hh g
    have e2' : run ([v], [v]) p = some ([v], d) := e2
    have hvd : v ∈ d := (run_inv e2' (Inv_one v)).2.1 v (by simp)
    exact ⟨goes_T0 e2' hmet hn.2.1, hmet v hvd⟩
end Go.Pev.Pl.Tok
end
section
/- What a forest is: rings apart from each other, in the order of their first tokens. -/
namespace Go.Pev.Pl
open Tok

def hd (l : List Int) : Int := l.headD 0
/-- no vertex in common -/
def Dis (n : Int) (a b : List Int) : Prop := ∀ t ∈ a, t < n → t ∉ b
structure FR (n : Int) (rings : List (List Int)) : Prop where
  sz : Sz n
  rg : ∀ l ∈ rings, RG n l
  up : rings.Pairwise (fun a b => hd a < hd b)
  dis : rings.Pairwise (Dis n)
  cov : ∀ v, In n v → ∃ l ∈ rings, v ∈ l

theorem Dis.symm {n : Int} {a b : List Int} (h : Dis n a b) : Dis n b a := fun t ht hn ha => h t ha hn ht

theorem okR_iff {n : Int} : ∀ {ls : List (List Int)} {seen : List Int} {last : Int}, okR n seen last ls ↔ (∀ l ∈ ls, RG n l ∧ last < hd l ∧ ∀ t ∈ l, t < n → t ∉ seen) ∧ ls.Pairwise (fun a b => hd a < hd b) ∧ ls.Pairwise (Dis n) := by
  intro ls
  induction ls with
  | nil => intro seen last; simp [okR]
  | cons l ls ih =>
    intro seen last
    rw [okR, ih, List.pairwise_cons, List.pairwise_cons]
    constructor
    · rintro ⟨h1, h2, h3, h4, h5, h6⟩
      refine ⟨fun k hk => ?_, ⟨fun k hk => (h4 k hk).2.1, h5⟩, ⟨fun k hk t ht htn htk => ?_, h6⟩⟩
      · rcases List.mem_cons.1 hk with rfl | hk
        · exact ⟨h1, h2, h3⟩
        · obtain ⟨q1, q2, q3⟩ := h4 k hk
          exact ⟨q1, Int.lt_trans h2 q2, fun t ht htn hts => q3 t ht htn (by simp [hts])⟩
      · exact (h4 k hk).2.2 t htk htn (by simp [ht, htn])
    · rintro ⟨h1, ⟨h2, h3⟩, ⟨h4, h5⟩⟩
      obtain ⟨q1, q2, q3⟩ := h1 l (by simp)
      refine ⟨q1, q2, q3, fun k hk => ?_, h3, h5⟩
      obtain ⟨p1, p2, p3⟩ := h1 k (by simp [hk])
      refine ⟨p1, h2 k hk, fun t ht htn hts => ?_⟩
      simp only [List.mem_append, List.mem_filter] at hts
      rcases hts with h | h
      · exact p3 t ht htn h
      · exact h4 k hk t h.1 htn ht

theorem RF_iff {n : Int} {rings : List (List Int)} : RF n rings ↔ FR n rings := by
  constructor
  · rintro ⟨h1, h2, h3⟩
    obtain ⟨q1, q2, q3⟩ := okR_iff.1 h2
    refine ⟨h1, fun l hl => (q1 l hl).1, q2, q3, fun v hv => ?_⟩
    obtain ⟨l, hl, h⟩ := List.mem_flatten.1 (h3 v hv.2.2.1 hv.2.2.2)
    exact ⟨l, hl, h⟩
  · rintro ⟨h1, h2, h3, h4, h5⟩
    refine ⟨h1, okR_iff.2 ⟨fun l hl => ⟨h2 l hl, ?_, by simp⟩, h3, h4⟩, fun v v1 v2 => ?_⟩
    · have := (RG_head (h2 l hl)).2.2.1
      show (-1 : Int) < l.headD 0
      omega
    · obtain ⟨l, hl, h⟩ := h5 v ⟨h1.1, h1.2, v1, v2⟩
      exact List.mem_flatten.2 ⟨l, hl, h⟩

/-- forests of the same rings, in their order, are the same -/
theorem sorted_same {ys zs : List (List Int)} (hz : zs.Pairwise (fun a b => hd a < hd b)) (hp : ys.Perm zs) (hy : ys.Pairwise (fun a b => ¬ hd b < hd a)) : ys = zs := by
  have hinj : ∀ a ∈ zs, ∀ b ∈ zs, hd a = hd b → a = b := by
    intro a ha b hb e
    refine Classical.byContradiction fun hne => ?_
    obtain ⟨i, hi, rfl⟩ := List.getElem_of_mem ha
    obtain ⟨j, hj, rfl⟩ := List.getElem_of_mem hb
    rw [List.pairwise_iff_getElem] at hz
    rcases Nat.lt_trichotomy i j with h | h | h
    · have := hz i j hi hj h; omega
    · subst h; exact hne rfl
    · have := hz j i hj hi h; omega
  refine List.Perm.eq_of_pairwise (le := fun a b => ¬ hd b < hd a) ?_ hy ?_ hp
  · intro a b ha hb h1 h2
    exact hinj a (hp.mem_iff.1 ha) b hb (by omega)
  · exact hz.imp fun h => by omega

/- the ring of a vertex -/
def plc (rings : List (List Int)) (v : Int) : Int := if rings.any (fun l => decide (v ∈ l)) then ((rings.findIdx (fun l => decide (v ∈ l)) : Nat) : Int) else -1

theorem place18_val (n : Int) (rings : List (List Int)) (v : Int) (hlen : rings.length < 1073741824) (hr : ∀ l ∈ rings, l.length < 9223372036854775808) : place18 ((n, (rings, ())), v, ()) = some (plc rings v, ()) := by
  rw [place18_eq, place18_d]
  have e := findL (step := place18_s0) (fun i => (v, n, rings, (i : Int), ())) rings (fun l => decide (v ∈ l)) (fun i => .inl ((i : Int), ())) (.inr (.inl ())) (by omega)
    (fun i l hi hx => by
      have hl := hr l (List.mem_of_getElem? hx)
      rw [place18_s0, dlen_l, ilt_nat, decide_eq_true hi]
      simp only [idx_some hx, place13_val l v (by omega)]
      rw [wrap_add1 (by omega), ile_eq]
      by_cases h : v ∈ l
      · obtain ⟨k, e, _⟩ := pos_in h
        rw [e, decide_eq_true (by omega), decide_eq_true h]; rfl
      · rw [pos_out h, decide_eq_false (by omega), decide_eq_false h]; rfl)
    (by rw [place18_s0, dlen_l, ilt_nat, decide_eq_false (by omega)])
  have e' : iterL place18_s0 many (v, n, rings, (0 : Int), ()) = _ := e
  simp only [e', plc]
  cases rings.any (fun l => decide (v ∈ l)) <;> rfl
theorem tplace_val (n : Int) (rings : List (List Int)) (v : Int) (hlen : rings.length < 1073741824) (hr : ∀ l ∈ rings, l.length < 9223372036854775808) : tplace ((n, (rings, ())), v, ()) = some (plc rings v, ()) := by
  rw [tplace_eq, tplace_d, idxFuncL_place_eq, idxFuncL_place_d]
  have e := findL (step := idxFuncL_place_s0) (fun i => (v, rings, dlen rings, (i : Int), ())) rings (fun l => decide (v ∈ l)) (fun i => .inl (v, (i : Int), ())) (.inr (.inl (v, ()))) (by omega)
    (fun i l hi hx => by
      have hl := hr l (List.mem_of_getElem? hx)
      rw [idxFuncL_place_s0, dlen_l, ilt_nat, decide_eq_true hi]
      simp only [idx_some hx, containsI_val l v (by omega)]
      rw [wrap_add1 (by omega)]
      by_cases h : v ∈ l
      · rw [decide_eq_true h]; rfl
      · rw [decide_eq_false h]; rfl)
    (by rw [idxFuncL_place_s0, dlen_l, ilt_nat, decide_eq_false (by omega)])
  have e' : iterL idxFuncL_place_s0 many (v, rings, dlen rings, (0 : Int), ()) = _ := e
  simp only [e', plc]
  cases rings.any (fun l => decide (v ∈ l)) <;> rfl

theorem plc_in {rings : List (List Int)} {v : Int} (h : ∃ l ∈ rings, v ∈ l) : ∃ k l, plc rings v = ((k : Nat) : Int) ∧ rings[k]? = some l ∧ v ∈ l ∧ k < rings.length := by
  obtain ⟨l, hl, hv⟩ := h
  have hany : rings.any (fun l => decide (v ∈ l)) = true := List.any_eq_true.2 ⟨l, hl, by simpa using hv⟩
  have hk : rings.findIdx (fun l => decide (v ∈ l)) < rings.length := List.findIdx_lt_length.2 ⟨l, hl, by simpa using hv⟩
  refine ⟨_, rings[rings.findIdx (fun l => decide (v ∈ l))], by rw [plc, if_pos hany], by rw [List.getElem?_eq_getElem hk], ?_, hk⟩
  have := List.findIdx_getElem (xs := rings) (p := fun l => decide (v ∈ l)) (w := hk)
  simpa using this
/-- a vertex is of one ring alone -/
theorem FR.uniq {n : Int} {rings : List (List Int)} (h : FR n rings) {i j : Nat} {a b : List Int} {v : Int} (hi : rings[i]? = some a) (hj : rings[j]? = some b) (hn : v < n) (ha : v ∈ a) (hb : v ∈ b) : i = j := by
  obtain ⟨hi1, rfl⟩ := List.getElem?_eq_some_iff.1 hi
  obtain ⟨hj1, rfl⟩ := List.getElem?_eq_some_iff.1 hj
  have hd := List.pairwise_iff_getElem.1 h.dis
  rcases Nat.lt_trichotomy i j with g | g | g
  · exact absurd hb (hd i j hi1 hj1 g v ha hn)
  · exact g
  · exact absurd ha (hd j i hj1 hi1 g v hb hn)
theorem FR.plc_eq {n : Int} {rings : List (List Int)} (h : FR n rings) {k : Nat} {a : List Int} {v : Int} (hk : rings[k]? = some a) (hn : v < n) (ha : v ∈ a) : plc rings v = (k : Int) := by
  obtain ⟨j, l, e, hj, hv, _⟩ := plc_in ⟨a, List.mem_of_getElem? hk, ha⟩
  rw [e, h.uniq hj hk hn hv ha]

/-- two rings, and the others -/
theorem erase_perm {α : Type} {l : List α} {i : Nat} {a : α} (h : l[i]? = some a) : l.Perm (a :: l.eraseIdx i) := by
  obtain ⟨hi, rfl⟩ := List.getElem?_eq_some_iff.1 h
  rw [List.eraseIdx_eq_take_drop_succ]
  conv => lhs; rw [← List.take_append_drop i l, List.drop_eq_getElem_cons hi]
  exact List.perm_middle
theorem erase2_perm {α : Type} {l : List α} {i j : Nat} {a b : α} (hij : i < j) (hi : l[i]? = some a) (hj : l[j]? = some b) : l.Perm (a :: b :: (l.eraseIdx j).eraseIdx i) := by
  have h1 := erase_perm hj
  have h2 : (l.eraseIdx j)[i]? = some a := by rw [List.getElem?_eraseIdx_of_lt hij, hi]
  exact h1.trans (((erase_perm h2).cons b).trans (List.Perm.swap a b _))

/- tokens of a ring that was grown -/
theorem TI_ok {n : Int} {xs : List Int} (h : TI n xs) (x : Int) (hx : x ∈ xs) : ∃ t, tokOf n x = some t ∧ okT n t ∧ encT n t = x := by
  obtain ⟨L, rfl, h2, _⟩ := h
  obtain ⟨t, ht, rfl⟩ := List.mem_map.1 hx
  exact ⟨t, tokOf_enc (h2 t ht), h2 t ht, rfl⟩
theorem okT_range {n : Int} {t : Tok} (h : okT n t) : 0 ≤ encT n t ∧ encT n t ≤ 4160 ∧ encT n t < n * (n + 1) := by
  cases t with
  | ver v =>
    obtain ⟨h1, h2, h3, h4⟩ := h
    have : n * 1 ≤ n * (n + 1) := Int.mul_le_mul_of_nonneg_left (by omega) (by omega)
    simp only [encT]; omega
  | arc u v =>
    obtain ⟨h1, h2, _⟩ := h
    obtain ⟨g1, g2, _⟩ := enc_arc h1 h2
    have hb := mul_bounds (u := n + 1 - 1) h1.1 h1.2.1 (by have := h1.1; omega) (by have := h1.2.1; omega)
    have e : n * (n + 1) = n * (n + 1 - 1) + n := by rw [show n + 1 - 1 = n by omega, Int.mul_add, Int.mul_one]
    have := h1.1
    have := h1.2.1
    simp only [encT]
    omega
theorem okT_sz {n : Int} {t : Tok} (h : okT n t) : Sz n := by
  cases t with
  | ver v => exact ⟨h.1, h.2.1⟩
  | arc u v => exact ⟨h.1.1, h.1.2.1⟩
theorem mem_enc {n : Int} {L : List Tok} (h2 : ∀ t ∈ L, okT n t) {t : Tok} (ht : okT n t) : encT n t ∈ L.map (encT n) ↔ t ∈ L := by
  rw [List.mem_map]
  constructor
  · rintro ⟨y, hy, e⟩
    rw [← enc_inj (h2 y hy) ht e]; exact hy
  · intro h; exact ⟨t, h, rfl⟩
theorem vers_nodup : ∀ {L : List Tok}, L.Nodup → (vers L).Nodup
  | [], _ => by simp [vers]
  | .ver v :: L, h => by
    rw [List.nodup_cons] at h
    rw [vers, List.nodup_cons]
    exact ⟨fun hm => h.1 (mem_vers.1 hm), vers_nodup h.2⟩
  | .arc _ _ :: L, h => by
    rw [List.nodup_cons] at h
    rw [vers]
    exact vers_nodup h.2
theorem TI_Rt {n : Int} {xs : List Int} (h : TI n xs) : Rt xs := by
  obtain ⟨L, rfl, h2, h3⟩ := h
  have hn := h3.nodup
  refine ⟨?_, fun x hx => ?_, ?_⟩
  · obtain ⟨v, r, hr⟩ := h3.cons_ver
    have hS : Sz n := okT_sz (h2 (.ver v) ((hr.mem _).2 (by simp)))
    have hl := h3.len
    have hv := nodup_sub_len (a := vers L) (b := (List.range n.toNat).map (fun (k : Nat) => (k : Int))) (vers_nodup hn) fun x hx => by
      have := h2 _ (mem_vers.1 hx)
      have h5 := this.2.2
      rw [List.mem_map]
      exact ⟨x.toNat, by rw [List.mem_range]; omega, by omega⟩
    have h6 := hS.2
    simp only [List.length_map, List.length_range] at hv ⊢
    omega
  · obtain ⟨t, ht, rfl⟩ := List.mem_map.1 hx
    have := okT_range (h2 t ht)
    omega
  · rw [List.Nodup, List.pairwise_map]
    exact hn.imp_of_mem fun ha hb hne e => hne (enc_inj (h2 _ ha) (h2 _ hb) e)

/-- the same ring of numbers -/
def IRot (a b : List Int) : Prop := ∃ x y, a = x ++ y ∧ b = y ++ x
theorem IRot.perm {a b : List Int} (h : IRot a b) : a.Perm b := by
  obtain ⟨x, y, rfl, rfl⟩ := h
  exact List.perm_append_comm
theorem IRot.symm {a b : List Int} (h : IRot a b) : IRot b a := by obtain ⟨x, y, h1, h2⟩ := h; exact ⟨y, x, h2, h1⟩
theorem TI_rot {n : Int} {a b : List Int} (h : TI n a) (r : IRot a b) : TI n b := by
  obtain ⟨L, h1, h2, h3⟩ := h
  obtain ⟨x, y, rfl, rfl⟩ := r
  obtain ⟨L1, L2, rfl, e1, e2⟩ := List.map_eq_append_iff.1 h1.symm
  refine ⟨L2 ++ L1, by rw [List.map_append, e1, e2], fun t ht => h2 t ?_, T.rot L1 L2 h3⟩
  simp only [List.mem_append] at ht ⊢
  exact ht.symm

theorem split_uniq {α : Type} {a b c d : List α} {t : α} (h : a ++ t :: b = c ++ t :: d) (h1 : t ∉ a) (h2 : t ∉ c) : a = c ∧ b = d := by
  induction a generalizing c with
  | nil =>
    cases c with
    | nil => simp at h; exact ⟨rfl, h⟩
    | cons x c => simp at h; exact absurd (by simp [h.1]) h2
  | cons y a ih =>
    cases c with
    | nil => simp at h; exact absurd (by simp [h.1]) h1
    | cons x c =>
      simp only [List.cons_append, List.cons.injEq] at h
      obtain ⟨e1, e2⟩ := ih h.2 (fun hm => h1 (List.mem_cons_of_mem _ hm)) (fun hm => h2 (List.mem_cons_of_mem _ hm))
      exact ⟨by rw [h.1, e1], e2⟩
theorem rotAt_eq {xs a b : List Int} {t : Int} (hn : xs.Nodup) (h : xs = a ++ t :: b) : rotAt xs t = t :: b ++ a := by
  obtain ⟨c, d, e1, e2, e3⟩ := rotAt_in (xs := xs) (t := t) (by rw [h]; simp)
  have ha : t ∉ a := by
    intro hm
    rw [h, List.nodup_append] at hn
    exact hn.2.2 t hm t (by simp) rfl
  obtain ⟨q1, q2⟩ := split_uniq (h.symm.trans e1) ha e2
  rw [e3, q1, q2]
theorem rotAt_irot {xs : List Int} {t : Int} (h : t ∈ xs) : IRot xs (rotAt xs t) := by
  obtain ⟨a, b, e1, _, e3⟩ := rotAt_in h
  exact ⟨a, t :: b, e1, by rw [e3]⟩
theorem rotAt_rot {xs ys : List Int} (r : IRot xs ys) (hn : xs.Nodup) {t : Int} (ht : t ∈ xs) : rotAt xs t = rotAt ys t := by
  have hny : ys.Nodup := r.perm.nodup_iff.1 hn
  obtain ⟨x, y, rfl, rfl⟩ := r
  rcases List.mem_append.1 ht with h | h
  · obtain ⟨p, q, rfl⟩ := List.append_of_mem h
    rw [rotAt_eq hn (a := p) (b := q ++ y) (by simp), rotAt_eq hny (a := y ++ p) (b := q) (by simp)]
    simp
  · obtain ⟨p, q, rfl⟩ := List.append_of_mem h
    rw [rotAt_eq hn (a := x ++ p) (b := q) (by simp), rotAt_eq hny (a := p) (b := q ++ x) (by simp)]
    simp
theorem minL_perm {xs ys : List Int} (h : xs.Perm ys) (hne : xs ≠ []) : minL ys = minL xs := by
  obtain ⟨h1, h2⟩ := minL_spec hne
  exact minL_eq (h.mem_iff.1 h1) fun x hx => h2 x (h.mem_iff.2 hx)
theorem plain_rot {xs ys : List Int} (r : IRot xs ys) (hr : Rt xs) (hry : Rt ys) (hne : xs ≠ []) : plain ys = plain xs := by
  have hne2 : ys ≠ [] := by
    intro e
    have := r.perm.length_eq
    rw [e] at this
    exact hne (List.length_eq_zero_iff.1 this)
  rw [plain, plain, if_pos ⟨hry, hne2⟩, if_pos ⟨hr, hne⟩, minL_perm r.perm hne, rotAt_rot r hr.2.2 (minL_spec hne).1]
theorem plain_irot {xs : List Int} (hr : Rt xs) (hne : xs ≠ []) : IRot xs (plain xs) := by
  rw [plain, if_pos ⟨hr, hne⟩]
  exact rotAt_irot (minL_spec hne).1
theorem TI_ne {n : Int} {xs : List Int} (h : TI n xs) : xs ≠ [] := by rintro rfl; exact TI_nil n h
theorem RG_plain {n : Int} {xs : List Int} (h : TI n xs) : RG n (plain xs) ∧ IRot xs (plain xs) := by
  have hr := TI_Rt h
  have hne := TI_ne h
  have h1 := plain_irot hr hne
  have h2 := TI_rot h h1
  refine ⟨⟨TI_Rt h2, TI_ne h2, ?_, h2⟩, h1⟩
  rw [minL_perm h1.perm hne]
  obtain ⟨a, b, _, e⟩ := plain_nonempty hr hne
  rw [e]; rfl
theorem RG.self {n : Int} {xs : List Int} (h : RG n xs) : plain xs = xs := (plain_self h.1 h.2.1).2 h.2.2.1

/-- a ring from a token on -/
theorem TI_rotAt {n : Int} {xs : List Int} (h : TI n xs) {t : Tok} (ht : okT n t) (hx : encT n t ∈ xs) : ∃ a, rotAt xs (encT n t) = (t :: a).map (encT n) ∧ T (t :: a) ∧ (∀ y ∈ t :: a, okT n y) := by
  have h1 := TI_rot h (rotAt_irot hx)
  obtain ⟨a, b, e1, e2, e3⟩ := rotAt_in hx
  obtain ⟨L, q1, q2, q3⟩ := h1
  rw [e3, List.cons_append] at q1
  cases L with
  | nil => cases q1
  | cons t' L =>
    simp only [List.map_cons, List.cons.injEq] at q1
    have := enc_inj ht (q2 t' (by simp)) q1.1
    subst this
    exact ⟨L, by rw [e3, List.cons_append, List.map_cons, q1.2], q3, q2⟩
end Go.Pev.Pl
end
section
/- A call whose result is the front of a slice that was handed in: it is the caller's own, from now on. Closures' own specs. Recursion. -/
namespace Go.Pev
open Go.RowKit

def takeK {R : Type} (slot : Nat) (H : List Ob) (fz : List Bool) (k : AV → Eff → Option R) (v : AV) (e : Eff) : Option R :=
  match e.heap with
  | none => match v with
    | .win id 0 n => match (appH e H)[id]? with
      | some (.arr T t xs) => match unfrozen (appF e fz) id && isFree (appH e H) (appF e fz) (slot + 3) && (e.objs.any fun p => Nat.beq p.1 id) with
        | true => k (.own (slot + 3)) { objs := e.objs ++ [(id, .dead), (slot + 3, .arr T t (dtake n xs))], frz := e.frz }
        | false => none
      | _ => none
    | _ => none
  | some _ => none

def takeBack (s : Spec) : Spec := fun R args H fz slot k => s R args H fz slot (takeK slot H fz k)

section
variable {P : Program} {g : FuncId}

theorem setObjs_app (a b : List (Nat × Ob)) : ∀ H, setObjs (a ++ b) H = setObjs b (setObjs a H) := by
  induction a with
  | nil => intro H; rfl
  | cons p a ih => intro H; obtain ⟨i, o⟩ := p; simp only [List.cons_append, setObjs]; exact ih _

/-- the front of an object, for the object -/
theorem goes_take {w : World} {F : Nat → Prop} {m : Mp} {H : List Ob} {fz : List Bool} (hi : HI w F m H fz) {id n slot : Nat} {T : TypeId} {t : Ty} {xs : List t.den} (ho : H[id]? = some (.arr T t xs)) (hf : unfrozen fz id = true)
    (hs : isFree H fz slot = true) {u : Value} (hr : Rep w F m H (.win id 0 n) u) :
    ∃ m', Goes w F m H fz w F m' ((H.set id .dead).set slot (.arr T t (dtake n xs))) fz ∧ Rep w F m' ((H.set id .dead).set slot (.arr T t (dtake n xs))) (.own slot) u := by
  have hob := hi.obj id _ ho
  obtain ⟨h0, hob⟩ := hob
  unfold Rep at hr
  rw [ho] at hr
  obtain ⟨hle, hr⟩ := hr
  rw [Nat.zero_add] at hle
  have hsn : slot ≠ id := free_ne hs ho
  have hkill := Goes.kill hi (owned_arr ho hf)
  have zero : ∀ a, n = 0 → u = .slice a 0 0 → ∃ m', Goes w F m H fz w F m' ((H.set id .dead).set slot (.arr T t (dtake n xs))) fz ∧ Rep w F m' ((H.set id .dead).set slot (.arr T t (dtake n xs))) (.own slot) u := by
    intro a hn hu
    subst hn; subst hu
    obtain ⟨m', hg, hrep⟩ := goes_new_empty (w := w) hkill.2 (isFree_set hs hsn) T h0 a
    exact ⟨m', hkill.trans hg, hrep⟩
  cases hm : m id with
  | none =>
    rw [hm] at hr hob
    obtain ⟨a, e1⟩ := hr
    simp only at hob
    subst hob
    have hn : n = 0 := by simpa using hle
    exact zero a hn (by rw [e1, hn])
  | some p =>
    obtain ⟨b, cap⟩ := p
    rw [hm] at hr hob
    obtain ⟨vs, row, e1, e2, e3, e4, e7, e8⟩ := hob
    obtain ⟨a, rfl, ha⟩ := hr
    rcases Nat.eq_zero_or_pos cap with hc | hc
    · have : n = 0 := by omega
      exact zero a this (by rw [this, hc])
    · have := ha hc
      rw [Nat.zero_mul] at this
      subst this
      have hk := fun (x : t.den) cs (h : Dat w F t x cs) => Dat.length t h
      have hlen : (xs.take n).length = n := by rw [List.length_take]; omega
      have hrw := rows_take hk n e7
      have hrl := rows_length hk hrw
      rw [hlen] at hrl
      have hg := Goes.move (w' := w) hi (owned_arr ho hf) hm hs (ob := .arr T t (dtake n xs)) trivial (b' := b) (c' := cap) (.inl rfl) rfl rfl rfl (Nat.le_refl _) (fun _ _ _ => rfl) (fun _ => ⟨h0, vs, row.take (n * t.size), e1, by
        show (xs.take n).length ≤ cap
        rw [hlen]; omega, e3, e4, hrw, by
        rw [hrl, ← e8, List.take_take, Nat.min_eq_left]
        rw [rows_length hk e7]
        exact Nat.mul_le_mul_right _ hle⟩)
      refine ⟨_, hg, ?_⟩
      have hlts := lt_of_get (isFree_iff hs).1
      unfold Rep
      rw [set_same (by simpa using hlts), upd_same]
      show Value.slice _ n (cap - 0) = Value.slice _ (xs.take n).length cap
      rw [hlen, Nat.sub_zero]

theorem takeBack_ok {s : Spec} (hs : SpecOK P g s) : SpecOK P g (takeBack s) := by
  intro R args H fz slot k r hk
  obtain ⟨v, e, h1, h2, h3, h4⟩ := hs R args H fz slot _ r hk
  unfold takeK at h1
  split at h1
  · rename_i he
    split at h1
    · rename_i id n
      split at h1
      · rename_i T t xs ho
        split at h1
        · rename_i hc
          refine ⟨_, _, h1, fun R' k' => ?_, h3, fun w F m vals hi hr => ?_⟩
          · unfold takeBack
            rw [h2]
            simp only [takeK, he, ho, hc]
          · refine (h4 w F m vals hi hr).mono ?_
            rintro en w' ⟨u, rfl, F', m', hg, hrep⟩
            simp only [Bool.and_eq_true] at hc
            obtain ⟨m2, hg2, hr2⟩ := goes_take hg.2 ho hc.1.1 hc.1.2 hrep
            have eH : appH { objs := e.objs ++ [(id, .dead), (slot + 3, .arr T t (dtake n xs))], frz := e.frz } H = ((appH e H).set id .dead).set (slot + 3) (.arr T t (dtake n xs)) := by
              rw [appH_none rfl, appH_none he, setObjs_app]
              rfl
            have eF : appF { objs := e.objs ++ [(id, .dead), (slot + 3, .arr T t (dtake n xs))], frz := e.frz } fz = appF e fz := by
              rw [appF_none rfl, appF_none he]
            refine ⟨u, rfl, F', m2, ?_, ?_⟩
            · rw [eH, eF]; exact hg.trans hg2
            · rw [eH]; exact hr2
        · cases h1
      · cases h1
    · cases h1
  · cases h1

theorem mkCall_none {na : Nat} {its outs : Items} {rs : List RS} {f : denL (leaves its) → Option (denL (leaves outs))} (hf : ∀ x, f x = none) : SpecOK P g (mkCall na its outs rs f) := by
  intro R args H fz slot k r hk
  unfold mkCall at hk
  split at hk
  · cases hk
  · split at hk
    · cases hk
    · rw [hf] at hk; cases hk
end

section
variable {S : List Nat} {H H' : List Ob}

theorem LocalSpec.toIn {s : Spec} (h : LocalSpec s) : LocalIn s :=
  fun R args H H' fz fz' slot k S hS _ ha => h R args H H' fz fz' slot k ⟨fun id hid => ha.heap id (hS id hid), ha.slotH, ha.slotF, ha.len, fun id hid => by cases hid⟩

/-- no item is an object by its number -/
def noObj : Items → Bool
  | [] => true
  | (.obj _, _) :: _ => false
  | _ :: r => noObj r

def refsIn (S : List Nat) (v : AV) : Prop := ∀ id ∈ refsAV v, id ∈ S
def bsIn (S : List Nat) (bs : List Bnd) : Prop := ∀ b ∈ bs, ∀ id, b.id? = some id → id ∈ S

theorem bsIn.get {bs : List Bnd} (h : bsIn S bs) {j : Nat} {b : Bnd} {id : Nat} (hj : bs[j]? = some b) (hi : b.id? = some id) : id ∈ S := h b (List.mem_of_getElem? hj) id hi
theorem bsIn.snoc {bs : List Bnd} (h : bsIn S bs) {b : Bnd} (hb : ∀ id, b.id? = some id → id ∈ S) : bsIn S (bs ++ [b]) := by
  intro x hx id hi
  rcases List.mem_append.1 hx with hx | hx
  · exact h x hx id hi
  · simp only [List.mem_singleton] at hx; subst hx; exact hb id hi

theorem look_in {tm : List AV} {bs : List Bnd} {l : Loc} (hS : ∀ id ∈ refsL tm, id ∈ S) (hc : ClosedS S H) (hH : ∀ id ∈ S, H[id]? = H'[id]?) (hb : bsIn S bs) (hl : ∀ j, l ≠ .obj j) :
    look tm H bs l = look tm H' bs l ∧ ∀ v, look tm H bs l = some v → refsIn S v := by
  cases l with
  | tmp t =>
    refine ⟨rfl, fun v hv id hid => hS id ?_⟩
    exact refsL_of_mem (List.mem_of_getElem? hv) hid
  | cell j c =>
    simp only [look]
    cases hj : bs[j]? with
    | none => exact ⟨rfl, fun v hv => by cases hv⟩
    | some b =>
      cases b with
      | none => exact ⟨rfl, fun v hv => by cases hv⟩
      | cut id => exact ⟨rfl, fun v hv => by cases hv⟩
      | whole id =>
        have hid := hb.get hj (id := id) rfl
        simp only
        rw [hH id hid]
        refine ⟨rfl, fun v hv => ?_⟩
        cases ho : H'[id]? with
        | none => rw [ho] at hv; cases hv
        | some o =>
          rw [ho] at hv
          cases o <;> simp only at hv <;> first | (cases hv; done) | skip
          rename_i cs
          intro i hi
          exact hc id hid cs (by rw [hH id hid, ho]) i (refsL_of_mem (List.mem_of_getElem? hv) hi)
  | cap t i =>
    refine ⟨rfl, fun v hv => ?_⟩
    simp only [look] at hv
    cases ht : tm[t]? with
    | none => rw [ht] at hv; cases hv
    | some a =>
      rw [ht] at hv
      cases a <;> simp only at hv <;> first | (cases hv; done) | skip
      rename_i f cs
      intro id hid
      refine hS id (refsL_of_mem (List.mem_of_getElem? ht) ?_)
      simp only [refsAV]
      exact refsL_of_mem (List.mem_of_getElem? hv) hid
  | obj j => exact absurd rfl (hl j)

theorem setFrz_agree {f : List Nat} {fz fz' : List Bool} (hl : fz.length = fz'.length) {id : Nat} (h : fz.getD id false = fz'.getD id false) : (setFrz f fz).getD id false = (setFrz f fz').getD id false := by
  rw [setFrz_getD, setFrz_getD, h, hl]

theorem dec_in {tm : List AV} (hS : ∀ id ∈ refsL tm, id ∈ S) (hc : ClosedS S H) (hH : ∀ id ∈ S, H[id]? = H'[id]?) : ∀ (its : Items) (fz fz' : List Bool) (bs : List Bnd), noObj its = true → bsIn S bs → fz.length = fz'.length → (∀ id ∈ S, fz.getD id false = fz'.getD id false) →
    dec tm H its fz bs = dec tm H' its fz' bs := by
  intro its
  induction its with
  | nil => intro fz fz' bs _ _ _ _; rfl
  | cons p r ih =>
    intro fz fz' bs hn hb hlen hz
    obtain ⟨l, c⟩ := p
    have hno : (∀ j, l ≠ .obj j) ∧ noObj r = true := by
      cases l with
      | obj j => cases hn
      | tmp t => exact ⟨fun j h => (by cases h), hn⟩
      | cell a b => exact ⟨fun j h => (by cases h), hn⟩
      | cap a b => exact ⟨fun j h => (by cases h), hn⟩
    obtain ⟨e1, e2⟩ := look_in hS hc hH hb hno.1
    have ihr := fun bs hb => ih fz fz' bs hno.2 hb hlen hz
    have unf : ∀ id ∈ S, unfrozen fz id = unfrozen fz' id := fun id hid => by unfold unfrozen; rw [hz id hid]
    cases c with
    | dat t =>
      simp only [dec, ← e1]
      cases hv : look tm H bs l with
      | none => rfl
      | some v =>
        simp only
        rw [asTy_local t v fun id hid => hH id (e2 v hv id hid)]
        cases asTy H' t v with
        | none => rfl
        | some q =>
          obtain ⟨x, f⟩ := q
          simp only
          rw [ih (setFrz f fz) (setFrz f fz') bs hno.2 hb (by rw [setFrz_len, setFrz_len, hlen]) (fun id hid => setFrz_agree hlen (hz id hid))]
    | own T e =>
      simp only [dec, ← e1]
      cases hv : look tm H bs l with
      | none => rfl
      | some v =>
        cases v with
        | nils e' => simp only; rw [ihr _ (hb.snoc fun id h => by cases h)]
        | own id =>
          have hid : id ∈ S := e2 _ hv id (by simp [refsAV])
          simp only
          rw [← hH id hid, unf id hid, ihr _ (hb.snoc fun id' h => by simp only [Bnd.id?, Option.some.injEq] at h; subst h; exact hid)]
        | win id off n =>
          have hid : id ∈ S := e2 _ hv id (by simp [refsAV])
          cases off with
          | succ off => rfl
          | zero =>
            simp only
            rw [← hH id hid, unf id hid, ihr _ (hb.snoc fun id' h => by simp only [Bnd.id?, Option.some.injEq] at h; subst h; exact hid)]
        | _ => rfl
    | box n =>
      simp only [dec, ← e1]
      cases hv : look tm H bs l with
      | none => rfl
      | some v =>
        cases v with
        | ptr id off =>
          have hid : id ∈ S := e2 _ hv id (by simp [refsAV])
          cases off with
          | succ off => rfl
          | zero =>
            simp only
            rw [← hH id hid, ihr _ (hb.snoc fun id' h => by simp only [Bnd.id?, Option.some.injEq] at h; subst h; exact hid)]
        | _ => rfl
    | map k v =>
      simp only [dec, ← e1]
      cases hv : look tm H bs l with
      | none => rfl
      | some u =>
        cases u with
        | mp id =>
          have hid : id ∈ S := e2 _ hv id (by simp [refsAV])
          simp only
          rw [← hH id hid, ihr _ (hb.snoc fun id' h => by simp only [Bnd.id?, Option.some.injEq] at h; subst h; exact hid)]
        | _ => rfl
    | own' j => simp only [dec, ← e1, ihr bs hb]
    | ptr' j off => simp only [dec, ← e1, ihr bs hb]
    | map' j => simp only [dec, ← e1, ihr bs hb]
    | sub' j => simp only [dec, ← e1, ihr bs hb]
    | win' j =>
      simp only [dec, ← e1]
      rw [ihr bs hb]
      cases hv : look tm H bs l with
      | none => rfl
      | some v =>
        cases v with
        | own id =>
          have hid : id ∈ S := e2 _ hv id (by simp [refsAV])
          cases bs[j]? with
          | none => rfl
          | some b =>
            cases b with
            | whole id' =>
              refine Eq.trans (b := match decide (id = id'), H[id]? with
                | true, some (.arr _ _ ys) => (match dec tm H' r fz' bs with
                  | some (xs, bs', g) => some ((dlen ys, xs), bs', g)
                  | none => none)
                | _, _ => none) rfl ?_
              rw [hH id hid]
              rfl
            | _ => rfl
        | win id off n =>
          cases off with
          | succ off => cases bs[j]? <;> rfl
          | zero =>
            cases bs[j]? with
            | none => rfl
            | some b => cases b <;> rfl
        | _ => cases bs[j]? <;> rfl
    | clo f ps => simp only [dec, ← e1, ihr bs hb]
    | nil e => simp only [dec, ← e1, ihr bs hb]

theorem idsOK_in {fz fz' : List Bool} : ∀ (n : Nat) (bs : List Bnd) (slot : Nat), (∀ s, slot ≤ s → s < slot + n → isFree H fz s = isFree H' fz' s) → idsOK H fz (idsOf n bs slot) bs = idsOK H' fz' (idsOf n bs slot) bs := by
  intro n
  induction n with
  | zero => intro bs slot _; cases bs <;> rfl
  | succ n ih =>
    intro bs slot h
    cases bs with
    | nil =>
      simp only [idsOf, idsOK, List.tail_nil]
      rw [h slot (Nat.le_refl _) (by omega), ih [] (slot + 1) fun s h1 h2 => h s (by omega) (by omega)]
    | cons b bs =>
      cases b with
      | whole id =>
        simp only [idsOf, idsOK, List.tail_cons]
        rw [ih bs slot fun s h1 h2 => h s h1 (by omega)]
      | none =>
        simp only [idsOf, idsOK, List.tail_cons]
        rw [h slot (Nat.le_refl _) (by omega), ih bs (slot + 1) fun s h1 h2 => h s (by omega) (by omega)]
      | cut id =>
        simp only [idsOf, idsOK, List.tail_cons]
        rw [h slot (Nat.le_refl _) (by omega), ih bs (slot + 1) fun s h1 h2 => h s (by omega) (by omega)]

theorem mkCall_in {na : Nat} {its outs : Items} {rs : List RS} {f : denL (leaves its) → Option (denL (leaves outs))} (hno : noObj its = true) (hn : Nat.ble (nobj outs) 4 = true) : LocalIn (mkCall na its outs rs f) := by
  intro R args H H' fz fz' slot k S hS hc ha
  have hn4 := Nat.le_of_ble_eq_true hn
  have hd : dec args H its fz [] = dec args H' its fz' [] := dec_in hS hc ha.heap its fz fz' [] hno (fun b hb => by cases hb) ha.len ha.wrF
  unfold mkCall
  rw [hd]
  split
  · rfl
  · rename_i x bs fr _
    split
    · rfl
    · split
      · rfl
      · have hf : ∀ (g : List Nat) s, slot ≤ s → s < slot + nobj outs → isFree H (setFrz g fz) s = isFree H' (setFrz g fz') s := fun g s h1 h2 => isFree_local ha h1 (by omega) g
        unfold backTo
        rw [idsOK_in (fz := fz) (fz' := fz') (nobj outs) bs slot (hf []), idsOK_in (fz := setFrz fr fz) (fz' := setFrz fr fz') (nobj outs) bs slot (hf fr)]

theorem idsOf_mem : ∀ (n : Nat) (bs : List Bnd) (slot i : Nat), i ∈ idsOf n bs slot → (∃ b ∈ bs, b.id? = some i) ∨ (slot ≤ i ∧ i < slot + n) := by
  intro n
  induction n with
  | zero => intro bs slot i h; cases bs <;> cases h
  | succ n ih =>
    intro bs slot i h
    have next : ∀ bs', i ∈ slot :: idsOf n bs' (slot + 1) → (∃ b ∈ bs', b.id? = some i) ∨ (slot ≤ i ∧ i < slot + (n + 1)) := by
      intro bs' h
      rcases List.mem_cons.1 h with rfl | h
      · exact .inr ⟨Nat.le_refl _, by omega⟩
      · rcases ih bs' (slot + 1) i h with h | h
        · exact .inl h
        · exact .inr ⟨by omega, by omega⟩
    cases bs with
    | nil => exact next [] h
    | cons b bs =>
      cases b with
      | whole id =>
        simp only [idsOf] at h
        rcases List.mem_cons.1 h with rfl | h
        · exact .inl ⟨.whole i, by simp, rfl⟩
        · rcases ih bs slot i h with ⟨b, hb, e⟩ | h
          · exact .inl ⟨b, by simp [hb], e⟩
          · exact .inr ⟨h.1, by omega⟩
      | none => rcases next bs h with ⟨b, hb, e⟩ | h; exact .inl ⟨b, by simp [hb], e⟩; exact .inr h
      | cut id => rcases next bs h with ⟨b, hb, e⟩ | h; exact .inl ⟨b, by simp [hb], e⟩; exact .inr h

/-- what is decoded lies in the set, too -/
theorem dec_bs_in {tm : List AV} (hS : ∀ id ∈ refsL tm, id ∈ S) (hc : ClosedS S H) : ∀ (its : Items) (fz : List Bool) (bs : List Bnd) (x : denL (leaves its)) (bs' : List Bnd) (fr : List Nat), noObj its = true → bsIn S bs →
    dec tm H its fz bs = some (x, bs', fr) → bsIn S bs' := by
  intro its
  induction its with
  | nil => intro fz bs x bs' fr _ hb h; simp only [dec, Option.some.injEq] at h; cases h; exact hb
  | cons p r ih =>
    intro fz bs x bs' fr hn hb h
    obtain ⟨l, c⟩ := p
    have hno : (∀ j, l ≠ .obj j) ∧ noObj r = true := by
      cases l with
      | obj j => cases hn
      | tmp t => exact ⟨fun j h => (by cases h), hn⟩
      | cell a b => exact ⟨fun j h => (by cases h), hn⟩
      | cap a b => exact ⟨fun j h => (by cases h), hn⟩
    have e2 := (look_in (H' := H) hS hc (fun _ _ => rfl) hb hno.1 (l := l)).2
    have one : ∀ {id : Nat} {b : Bnd}, id ∈ S → b.id? = some id → bsIn S (bs ++ [b]) := fun hid hbid => hb.snoc fun id' h' => by rw [hbid] at h'; cases h'; exact hid
    cases c <;> simp only [dec] at h
    case dat t =>
      split at h
      · split at h
        · split at h
          · split at h
            · rename_i hd; cases h; exact ih _ _ _ _ _ hno.2 hb hd
            · cases h
          · cases h
        · cases h
      · cases h
    case own T e =>
      split at h
      · split at h
        · split at h
          · rename_i hd; cases h; exact ih _ _ _ _ _ hno.2 (hb.snoc fun id h => by cases h) hd
          · cases h
        · cases h
      · rename_i id hl
        split at h
        · split at h
          · split at h
            · rename_i hd; cases h; exact ih _ _ _ _ _ hno.2 (one (e2 _ hl id (by simp [refsAV])) rfl) hd
            · cases h
          · cases h
        · cases h
      · rename_i id n hl
        split at h
        · split at h
          · split at h
            · rename_i hd; cases h; exact ih _ _ _ _ _ hno.2 (one (e2 _ hl id (by simp [refsAV])) rfl) hd
            · cases h
          · cases h
        · cases h
      · cases h
    case box n =>
      split at h
      · rename_i id hl
        split at h
        · split at h
          · exact ih _ _ _ _ _ hno.2 (one (e2 _ hl id (by simp [refsAV])) rfl) h
          · cases h
        · cases h
      · cases h
    case map k v =>
      split at h
      · rename_i id hl
        split at h
        · split at h
          · split at h
            · rename_i hd; cases h; exact ih _ _ _ _ _ hno.2 (one (e2 _ hl id (by simp [refsAV])) rfl) hd
            · cases h
          · cases h
        · cases h
      · cases h
    case own' j =>
      split at h
      · split at h
        · exact ih _ _ _ _ _ hno.2 hb h
        · cases h
      · cases h
    case ptr' j off =>
      split at h
      · split at h
        · exact ih _ _ _ _ _ hno.2 hb h
        · cases h
      · cases h
    case map' j =>
      split at h
      · split at h
        · exact ih _ _ _ _ _ hno.2 hb h
        · cases h
      · cases h
    case win' j =>
      split at h
      · split at h
        · split at h
          · rename_i hd; cases h; exact ih _ _ _ _ _ hno.2 hb hd
          · cases h
        · cases h
      · split at h
        · split at h
          · rename_i hd; cases h; exact ih _ _ _ _ _ hno.2 hb hd
          · cases h
        · cases h
      · cases h
    case sub' j =>
      split at h
      · split at h
        · split at h
          · rename_i hd; cases h; exact ih _ _ _ _ _ hno.2 hb hd
          · cases h
        · cases h
      · cases h
    case clo f ps =>
      split at h
      · split at h
        · exact ih _ _ _ _ _ hno.2 hb h
        · cases h
      · cases h
    case nil e =>
      cases hv : look tm H bs l with
      | none => rw [hv] at h; cases h
      | some v =>
        rw [hv] at h
        cases v <;> simp only at h <;> first | exact ih _ _ _ _ _ hno.2 hb h | cases h

theorem take_in {na : Nat} {its outs : Items} {rs : List RS} {f : denL (leaves its) → Option (denL (leaves outs))} (hno : noObj its = true) (hn : Nat.ble (nobj outs) 4 = true) : LocalIn (takeBack (mkCall na its outs rs f)) := by
  intro R args H H' fz fz' slot k hS0 hS hc ha
  have hn4 := Nat.le_of_ble_eq_true hn
  have hd : dec args H its fz [] = dec args H' its fz' [] := dec_in hS hc ha.heap its fz fz' [] hno (fun b hb => by cases hb) ha.len ha.wrF
  have hbs : ∀ x bs fr, dec args H its fz [] = some (x, bs, fr) → bsIn hS0 bs := fun x bs fr h => dec_bs_in hS hc its fz [] x bs fr hno (fun b hb => by cases hb) h
  unfold takeBack mkCall
  rw [hd] at hbs ⊢
  split
  · rfl
  · rename_i x bs fr hdec
    have hb := hbs x bs fr hdec
    split
    · rfl
    · split
      · rfl
      · rename_i y _
        have hf : ∀ (g : List Nat) s, slot ≤ s → s < slot + nobj outs → isFree H (setFrz g fz) s = isFree H' (setFrz g fz') s := fun g s h1 h2 => isFree_local ha h1 (by omega) g
        -- an object that is among the call's own
        have key : ∀ (e : Eff) (v : AV), e.heap = none → (∀ p ∈ e.objs, p.1 ∈ idsOf (nobj outs) bs slot) → takeK slot H fz k v e = takeK slot H' fz' k v e := by
          intro e v he ho
          unfold takeK
          rw [he]
          simp only
          have hfree : isFree (appH e H) (appF e fz) (slot + 3) = isFree (appH e H') (appF e fz') (slot + 3) := by
            rw [appH_none he, appH_none he, appF_none he, appF_none he]
            unfold isFree
            rw [setObjs_congr e.objs H H' (ha.slotH (slot + 3) (by omega) (by omega)), setFrz_agree ha.len (ha.slotF (slot + 3) (by omega) (by omega))]
          cases v with
          | win id off n =>
            cases off with
            | succ off => rfl
            | zero =>
              simp only
              cases hany : (e.objs.any fun p => Nat.beq p.1 id) with
              | false =>
                simp only [Bool.and_false]
                cases (appH e H)[id]? with
                | none => cases (appH e H')[id]? with
                  | none => rfl
                  | some o => cases o <;> rfl
                | some o => cases (appH e H')[id]? with
                  | none => cases o <;> rfl
                  | some o' => cases o <;> cases o' <;> rfl
              | true =>
                rw [List.any_eq_true] at hany
                obtain ⟨p, hp, hpi⟩ := hany
                have hpi := Nat.eq_of_beq_eq_true hpi
                subst hpi
                have hin := idsOf_mem _ _ _ _ (ho p hp)
                have h1 : H[p.1]? = H'[p.1]? := by
                  rcases hin with ⟨b, hbm, hbi⟩ | ⟨h1, h2⟩
                  · exact ha.heap _ (hb b hbm _ hbi)
                  · exact ha.slotH _ h1 (by omega)
                have h2 : fz.getD p.1 false = fz'.getD p.1 false := by
                  rcases hin with ⟨b, hbm, hbi⟩ | ⟨h1, h2⟩
                  · exact ha.wrF _ (hb b hbm _ hbi)
                  · exact ha.slotF _ h1 (by omega)
                have h3 : (appH e H)[p.1]? = (appH e H')[p.1]? := by
                  rw [appH_none he, appH_none he]
                  exact setObjs_congr e.objs H H' h1
                have h4 : unfrozen (appF e fz) p.1 = unfrozen (appF e fz') p.1 := by
                  rw [appF_none he, appF_none he]
                  unfold unfrozen
                  rw [setFrz_agree ha.len h2]
                rw [h3, h4, hfree]
          | _ => rfl
        unfold backTo
        rw [idsOK_in (fz := fz) (fz' := fz') (nobj outs) bs slot (hf []), idsOK_in (fz := setFrz fr fz) (fz' := setFrz fr fz') (nobj outs) bs slot (hf fr)]
        split
        · split
          · exact key { objs := _ } _ rfl fun p hp => (List.of_mem_zip hp).1
          · rfl
        · split
          · exact key { objs := _, frz := _ } _ rfl fun p hp => (List.of_mem_zip hp).1
          · rfl
end

/-- whose closure an argument is -/
def cloAt (i : Nat) (args : List AV) : Option FuncId :=
  match args[i]? with
  | some (.clo f _) => some f
  | _ => none

/-- a spec for calls with one closure -/
def Env.extC (E : Env) (g : FuncId) (i : Nat) (c : FuncId) (s : Spec) : Env where
  spec x := match Nat.beq x g with
    | true => fun R args H fz slot k => match cloAt i args with
      | some c' => match Nat.beq c' c with
        | true => s R args H fz slot k
        | false => E.spec x R args H fz slot k
      | .none => Option.none
    | false => E.spec x
  loc x := match Nat.beq x g with
    | true => false
    | false => E.loc x
  loc2 x := match Nat.beq x g with
    | true => E.loc2 g
    | false => E.loc2 x

theorem Env.extC_ok {P : Program} {E : Env} {g : FuncId} {i : Nat} {c : FuncId} {s : Spec} (h : EnvOK P E) (hs : SpecOK P g s) (hl2 : LocalIn s) : EnvOK P (E.extC g i c s) := by
  refine ⟨?_, ?_, ?_⟩
  · intro x
    simp only [Env.extC]
    cases hx : Nat.beq x g with
    | false => exact h.1 x
    | true =>
      have := Nat.eq_of_beq_eq_true hx
      subst this
      intro R args H fz slot k r hk
      simp only at hk
      split at hk
      · rename_i c' hc'
        split at hk
        · rename_i hb
          obtain ⟨v, e, h1, h2, h3, h4⟩ := hs R args H fz slot k r hk
          exact ⟨v, e, h1, fun R' k' => by simp only [hc', hb]; exact h2 R' k', h3, h4⟩
        · rename_i hb
          obtain ⟨v, e, h1, h2, h3, h4⟩ := h.1 x R args H fz slot k r hk
          exact ⟨v, e, h1, fun R' k' => by simp only [hc', hb]; exact h2 R' k', h3, h4⟩
      · cases hk
  · intro x hx
    simp only [Env.extC] at hx ⊢
    cases hb : Nat.beq x g with
    | true => rw [hb] at hx; cases hx
    | false => rw [hb] at hx; exact h.2.1 x hx
  · intro x hx
    simp only [Env.extC] at hx ⊢
    cases hb : Nat.beq x g with
    | true =>
      rw [hb] at hx
      have := Nat.eq_of_beq_eq_true hb
      subst this
      have h2 := h.2.2 x hx
      intro R args H H' fz fz' slot k S a1 a2 a3
      simp only
      split
      · split
        · exact hl2 R args H H' fz fz' slot k S a1 a2 a3
        · exact h2 R args H H' fz fz' slot k S a1 a2 a3
      · rfl
    | false => rw [hb] at hx; exact h.2.2 x hx
end Go.Pev
end
section
/- From a function's spec to the statement of a law: what is read as data is data of the evaluator. -/
namespace Go.Pev
open Go.RowKit Go.ChangeShapes Go.WideShapes Go.ChangeAt

def readFs (P : Program) (rd : TypeId → Option Ty) : List Field → Nat → Option Ty
  | [], _ => some .unit
  | f :: r, off => match rd f.type, readFs P rd r (off + P.cellsOf f.type) with
    | some a, some b => match Nat.beq f.offset off && Nat.beq (P.cellsOf f.type) a.size with
      | true => some (.prod a b)
      | false => none
    | _, _ => none

/-- a type of the program that is read as the evaluator's data; that the table's sizes fit -/
def readTy (P : Program) : Nat → TypeId → Option Ty
  | 0, _ => none
  | n + 1, t => match P.underlying t with
    | some .bool => some .bool
    | some (.int k) => some (.int k)
    | some (.slice e) => match readTy P n e with
      | some a => match Nat.beq (P.cellsOf e) a.size && !(Nat.beq a.size 0) with
        | true => some (.slice a)
        | false => none
      | none => none
    | some (.array c e) => match readTy P n e with
      | some a => match Nat.beq (P.cellsOf e) a.size && Nat.beq (P.cellsOf t) (c * a.size) with
        | true => some (.arr c a)
        | false => none
      | none => none
    | some (.struct fs) => match readFs P (readTy P n) fs.toList 0 with
      | some a => match Nat.beq (P.cellsOf t) a.size with
        | true => some a
        | false => none
      | none => none
    | _ => none

/-- numbers are of their kinds -/
def wfD : (t : Ty) → t.den → Prop
  | .unit, _ => True
  | .bool, _ => True
  | .int k, n => k.min ≤ n ∧ n ≤ k.max
  | .slice e, xs => List.length (α := e.den) xs ≤ maxLen ∧ ∀ x ∈ (xs : List e.den), wfD e x
  | .prod a b, d => wfD a d.1 ∧ wfD b d.2
  | .arr n e, xs => List.length (α := e.den) xs = n ∧ ∀ x ∈ (xs : List e.den), wfD e x

section
variable {H : Type} {enc : TypeId × Value → H} {P : Program} {w : World} {spare : Nat → Bool} {held : Bool}

abbrev below (w : World) : Nat → Prop := fun b => b < w.heap.size

theorem wf_int {k : IntKind} {n : Int} (h : (Lit.int k n).wf = true) : k.min ≤ n ∧ n ≤ k.max := by
  simpa [Lit.wf] using h

theorem rows_of {α : Type} {R : α → List Value → Prop} {k : Nat} : ∀ (m : Nat) (f : Nat → List Value), (∀ i, i < m → (f i).length = k ∧ ∃ x, R x (f i)) → ∃ xs : List α, xs.length = m ∧ rows R xs ((List.range m).flatMap f) ∧ ∀ x ∈ xs, ∃ i, i < m ∧ R x (f i) := by
  intro m
  induction m with
  | zero => intro f _; exact ⟨[], rfl, rfl, fun x hx => by cases hx⟩
  | succ m ih =>
    intro f h
    obtain ⟨xs, h1, h2, h3⟩ := ih f fun i hi => h i (by omega)
    obtain ⟨_, x, hx⟩ := h m (by omega)
    refine ⟨xs ++ [x], by simp [h1], ?_, fun y hy => ?_⟩
    · rw [List.range_succ, List.flatMap_append]
      exact rows_app h2 (by simp; exact ⟨f m, [], by simp, hx, rfl⟩)
    · rcases List.mem_append.1 hy with hy | hy
      · obtain ⟨i, hi, hr⟩ := h3 y hy; exact ⟨i, by omega, hr⟩
      · simp only [List.mem_singleton] at hy; subst hy; exact ⟨m, by omega, hx⟩

theorem flat_get {f : Nat → List Value} {k : Nat} : ∀ (m : Nat), (∀ i, i < m → (f i).length = k) → ∀ (j : Nat) (u : Value), ((List.range m).flatMap f)[j]? = some u → ∃ i r, i < m ∧ r < k ∧ j = i * k + r ∧ (f i)[r]? = some u := by
  intro m
  induction m with
  | zero => intro _ j u h; simp at h
  | succ m ih =>
    intro hl j u h
    rw [List.range_succ, List.flatMap_append] at h
    have hlen : ∀ m', m' ≤ m → ((List.range m').flatMap f).length = m' * k := by
      intro m' hm'
      induction m' with
      | zero => simp
      | succ m' ih' =>
        rw [List.range_succ, List.flatMap_append, List.length_append, ih' (by omega)]
        simp [hl m' (by omega), Nat.add_mul]
    rcases Nat.lt_or_ge j (m * k) with hj | hj
    · rw [List.getElem?_append_left (by rw [hlen m (Nat.le_refl _)]; exact hj)] at h
      obtain ⟨i, r, h1, h2, h3, h4⟩ := ih (fun i hi => hl i (by omega)) j u h
      exact ⟨i, r, by omega, h2, h3, h4⟩
    · rw [List.getElem?_append_right (by rw [hlen m (Nat.le_refl _)]; exact hj), hlen m (Nat.le_refl _)] at h
      simp only [List.flatMap_cons, List.flatMap_nil, List.append_nil] at h
      have hr : j - m * k < k := by
        have := lt_of_get' h
        rwa [hl m (by omega)] at this
      exact ⟨m, j - m * k, by omega, hr, by omega, h⟩

theorem addr_add (a : Addr) (i j : Nat) : (a.add i).add j = a.add (i + j) := by
  unfold Addr.add
  by_cases hi : i = 0
  · subst hi; simp
  · by_cases hj : j = 0
    · subst hj; simp
    · have : ¬ (i + j = 0) := by omega
      simp [hi, hj, Nat.add_assoc]

theorem choose_lt' {α : Type} [Inhabited α] {n : Nat} {p : Nat → α → Prop} (h : ∀ i, i < n → ∃ x, p i x) : ∃ f : Nat → α, ∀ i, i < n → p i (f i) := by
  classical
  refine ⟨fun i => if hi : i < n then Classical.choose (h i hi) else default, fun i hi => ?_⟩
  simp only [dif_pos hi]
  exact Classical.choose_spec (h i hi)

theorem readFs_dat {rd : TypeId → Option Ty} {cs : List Value} (hrd : ∀ (f : Field) (a : Ty), rd f.type = some a → (P.cellsOf f.type = a.size) → (∃ y : Nat × (DataW H × List MemPlace), DataW.trod enc P w 0 spare held y.1 f.type ((cs.drop f.offset).take (P.cellsOf f.type)) = some y.2) → ∃ d : a.den, Dat w (below w) a d ((cs.drop f.offset).take (P.cellsOf f.type)) ∧ wfD a d) :
    ∀ (fs : List Field) (off : Nat) (t : Ty), readFs P rd fs off = some t → off + t.size = cs.length → (∀ f ∈ fs, ∃ y : Nat × (DataW H × List MemPlace), DataW.trod enc P w 0 spare held y.1 f.type ((cs.drop f.offset).take (P.cellsOf f.type)) = some y.2) →
      ∃ d : t.den, Dat w (below w) t d (cs.drop off) ∧ wfD t d := by
  intro fs
  induction fs with
  | nil =>
    intro off t h hl _
    simp only [readFs, Option.some.injEq] at h
    subst h
    refine ⟨(), ?_, trivial⟩
    show cs.drop off = []
    simp [Ty.size] at hl
    exact List.drop_eq_nil_of_le (by omega)
  | cons f r ih =>
    intro off t h hl hf
    simp only [readFs] at h
    split at h
    · rename_i a b ha hb
      split at h
      · rename_i hc
        simp only [Option.some.injEq] at h
        subst h
        simp only [Bool.and_eq_true] at hc
        have h1 := Nat.eq_of_beq_eq_true hc.1
        have h2 := Nat.eq_of_beq_eq_true hc.2
        obtain ⟨d, hd, hw⟩ := hrd f a ha h2 (hf f (by simp))
        simp only [Ty.size] at hl
        obtain ⟨e, he, hw'⟩ := ih (off + P.cellsOf f.type) b hb (by omega) fun g hg => hf g (by simp [hg])
        refine ⟨(d, e), ⟨(cs.drop off).take (P.cellsOf f.type), cs.drop (off + P.cellsOf f.type), ?_, ?_, he⟩, hw, hw'⟩
        · rw [← List.drop_drop, List.take_append_drop]
        · rw [h1] at hd; exact hd
      · cases h
    · cases h

theorem trod_dat : ∀ (n : Nat) (t : TypeId) (ty : Ty) (fuel : Nat) (cs : List Value) (x : DataW H × List MemPlace), readTy P n t = some ty → DataW.trod enc P w 0 spare held fuel t cs = some x → ∃ d : ty.den, Dat w (below w) ty d cs ∧ wfD ty d := by
  intro n
  induction n with
  | zero => intro t ty fuel cs x h; cases h
  | succ n ih =>
    intro t ty fuel cs x h hx
    simp only [readTy] at h
    split at h
    · rename_i hu
      simp only [Option.some.injEq] at h; subst h
      obtain ⟨b, rfl, _⟩ := DataW.trod_bool hu hx
      exact ⟨b, rfl, trivial⟩
    · rename_i k hu
      simp only [Option.some.injEq] at h; subst h
      obtain ⟨m, rfl, _, hw⟩ := DataW.trod_int hu hx
      exact ⟨m, rfl, wf_int hw⟩
    · rename_i e hu
      split at h
      · rename_i a ha
        split at h
        · rename_i hc
          simp only [Option.some.injEq] at h; subst h
          rw [Bool.and_eq_true] at hc
          have hpos : a.size ≠ 0 := fun h0 => by rw [h0] at hc; simp at hc
          have hc := Nat.eq_of_beq_eq_true hc.1
          rcases DataW.trod_slice hu hx with ⟨rfl, _⟩ | ⟨ad, len, cap, elems, rest, m, rfl, rfl, _, _, hle, hmax, hlen, hel, _⟩
          · exact ⟨[], ⟨none, 0, rfl, Nat.le_refl _, fun hne => absurd rfl hne⟩, Nat.zero_le _, fun x hx => by cases hx⟩
          · -- each element
            have each : ∀ i, i < len → ∃ cs', w.cells? 0 (ad.add (i * P.cellsOf e)) (P.cellsOf e) = some cs' ∧ ∃ d : a.den, Dat w (below w) a d cs' ∧ wfD a d := by
              intro i hi
              have h1 := hel i hi
              rw [List.getElem?_eq_getElem (by omega), Option.bind_eq_some_iff] at h1
              obtain ⟨cs', h2, h3⟩ := h1
              exact ⟨cs', h2, ih e a m cs' _ ha h3⟩
            obtain ⟨f, hf⟩ := choose_lt' (α := List Value) (p := fun i cs' => w.cells? 0 (ad.add (i * P.cellsOf e)) (P.cellsOf e) = some cs' ∧ ∃ d : a.den, Dat w (below w) a d cs' ∧ wfD a d) each
            have hfl : ∀ i, i < len → (f i).length = a.size := by
              intro i hi
              obtain ⟨_, hl, _⟩ := World.cells?_some (hf i hi).1
              rw [hl, hc]
            obtain ⟨xs, h1, h2, h3⟩ := rows_of (R := fun (d : a.den) cs => Dat w (below w) a d cs ∧ wfD a d) (k := a.size) len f fun i hi => ⟨hfl i hi, (hf i hi).2⟩
            refine ⟨xs, ⟨some ad, cap, by rw [h1], by rw [h1]; exact hle, fun hne => ⟨ad, (List.range len).flatMap f, rfl, ?_, rows_mono (fun x _ cs hx => hx.1) h2, fun j u hu => ?_⟩⟩, by rw [h1]; exact Nat.le_trans hle hmax, fun x hx => ?_⟩
            · -- the block is there
              have hl0 : 0 < len := by
                rcases Nat.eq_zero_or_pos len with h0 | h0
                · exact absurd (List.eq_nil_of_length_eq_zero (by rw [h1, h0])) hne
                · exact h0
              have hb := World.cells?_block (hf 0 hl0).1 (by omega)
              rw [Nat.zero_mul] at hb
              have e0 : ad.add 0 = ad := by simp [Addr.add]
              rw [e0] at hb
              exact hb
            · obtain ⟨i, r, hi, hr, rfl, hur⟩ := flat_get len hfl j u hu
              obtain ⟨_, _, hcell⟩ := World.cells?_some (hf i hi).1
              have := hcell r (by rw [hc]; exact hr)
              rw [hur] at this
              rw [← this, hc, addr_add]
            · obtain ⟨i, _, hr⟩ := h3 x hx
              exact hr.2
        · cases h
      · cases h
    · rename_i c e hu
      split at h
      · rename_i a ha
        split at h
        · rename_i hc
          simp only [Option.some.injEq] at h; subst h
          rw [Bool.and_eq_true] at hc
          have hc1 := Nat.eq_of_beq_eq_true hc.1
          have hc2 := Nat.eq_of_beq_eq_true hc.2
          obtain ⟨xs, m, rfl, _, hl, hxs, hfs⟩ := DataW.trod_array hu hx
          rw [hc2] at hl
          obtain ⟨ys, h1, h2, h3⟩ := rows_of (R := fun (d : a.den) cs => Dat w (below w) a d cs ∧ wfD a d) (k := a.size) c (fun i => (cs.drop (i * a.size)).take a.size) fun i hi => by
            have hi1 : i * a.size + a.size ≤ c * a.size := by
              have := Nat.mul_le_mul_right a.size (show i + 1 ≤ c from hi)
              rwa [Nat.add_mul, Nat.one_mul] at this
            have h1 := hfs i hi
            rw [List.getElem?_eq_getElem (by omega), hc1] at h1
            exact ⟨by rw [List.length_take, List.length_drop, hl]; omega, ih e a m _ _ ha h1⟩
          have hjoin : ∀ k, k ≤ c → (List.range k).flatMap (fun i => (cs.drop (i * a.size)).take a.size) = cs.take (k * a.size) := by
            intro k
            induction k with
            | zero => intro _; simp
            | succ k ihk =>
              intro hk
              rw [List.range_succ, List.flatMap_append, ihk (by omega), Nat.add_mul, Nat.one_mul, List.take_add]
              simp
          rw [hjoin c (Nat.le_refl _), ← hl, List.take_length] at h2
          exact ⟨ys, ⟨h1, rows_mono (fun x _ cs hx => hx.1) h2⟩, h1, fun x hx => by obtain ⟨i, _, hr⟩ := h3 x hx; exact hr.2⟩
        · cases h
      · cases h
    · rename_i fs hu
      split at h
      · rename_i a ha
        split at h
        · rename_i hc
          simp only [Option.some.injEq] at h; subst h
          have hc := Nat.eq_of_beq_eq_true hc
          obtain ⟨xs, m, rfl, _, hl, hxs, hfs⟩ := DataW.trod_struct hu hx
          obtain ⟨d, hd, hw⟩ := readFs_dat (enc := enc) (w := w) (spare := spare) (held := held) (cs := cs) (fun f b hb _ ⟨y, hy⟩ => ih f.type b y.1 _ y.2 hb hy) fs.toList 0 _ ha (by rw [hl, hc]; omega) (fun f hf => by
            obtain ⟨i, hi⟩ := List.getElem?_of_mem hf
            have h1 := hfs i f (by simpa using hi)
            have hlt : i < xs.length := by rw [hxs]; simpa using lt_of_get' hi
            rw [List.getElem?_eq_getElem hlt] at h1
            exact ⟨(m, xs[i]), h1⟩)
          rw [List.drop_zero] at hd
          exact ⟨d, hd, hw⟩
        · cases h
      · cases h
    · cases h

/-- a value that is read as data -/
theorem okWide_one {r : Reach} {b0 : Nat} {t : TypeId} {v : Value} (hval : Value.okWide P w r b0 t v) (hn : ∀ d, P.underlying t = some d → (match d with | .bool | .int _ | .slice _ => true | _ => false) = true) {ty : Ty} {n : Nat} (h : readTy P (n + 1) t = some ty) : v.cells.toList = [v] := by
  simp only [Value.okWide] at hval
  have hu : ∃ d, P.underlying t = some d := by
    cases hu : P.underlying t with
    | none => simp only [readTy, hu] at h; cases h
    | some d => exact ⟨d, rfl⟩
  obtain ⟨d, hu⟩ := hu
  have := hn d hu
  rw [hu] at hval
  cases d <;> simp only [Bool.false_eq_true] at this <;> simp only [Cell.okWide, hu] at hval <;> cases v <;> first | rfl | (simp_all [Cell.ok])

theorem trod_rep {r : Reach} {b0 : Nat} {t : TypeId} {v : Value} {ps : List MemPlace} {dd : DataW H} (hval : Value.okWide P w r b0 t v) (hd : DataW.Trod enc P w 0 spare held t v dd ps) {ty : Ty} {n : Nat} (h : readTy P (n + 1) t = some ty) :
    ∃ d : ty.den, RepD w (below w) ty d v ∧ wfD ty d := by
  obtain ⟨fuel, hf⟩ := hd
  obtain ⟨d, h1, h2⟩ := trod_dat (n + 1) t ty fuel _ _ h hf
  refine ⟨d, ?_, h2⟩
  have one : (∀ d, P.underlying t = some d → (match d with | .bool | .int _ | .slice _ => true | _ => false) = true) → ty.isAgg = false → RepD w (below w) ty d v := by
    intro hn hg
    unfold RepD
    rw [hg]
    rw [okWide_one hval hn h] at h1
    exact h1
  have agg : (∃ cs, v = .agg cs) → ty.isAgg = true → RepD w (below w) ty d v := by
    rintro ⟨cs, rfl⟩ hg
    unfold RepD
    rw [hg]
    exact ⟨cs, rfl, h1⟩
  have hu : ∃ d, P.underlying t = some d := by
    cases hu : P.underlying t with
    | none => simp only [readTy, hu] at h; cases h
    | some d => exact ⟨d, rfl⟩
  obtain ⟨td, hu⟩ := hu
  simp only [readTy, hu] at h
  split at h
  · rename_i hq; cases hq; simp only [Option.some.injEq] at h; subst h
    exact one (fun d hd => by rw [hu] at hd; cases hd; rfl) rfl
  · rename_i k hq; cases hq; simp only [Option.some.injEq] at h; subst h
    exact one (fun d hd => by rw [hu] at hd; cases hd; rfl) rfl
  · rename_i e hq; cases hq
    split at h
    · split at h
      · simp only [Option.some.injEq] at h; subst h
        exact one (fun d hd => by rw [hu] at hd; cases hd; rfl) rfl
      · cases h
    · cases h
  · rename_i c e hq; cases hq
    have hv : ∃ cs, v = .agg cs := by
      simp only [Value.okWide, hu] at hval
      obtain ⟨cs, rfl, _⟩ := hval
      exact ⟨cs, rfl⟩
    split at h
    · split at h
      · simp only [Option.some.injEq] at h; subst h
        exact agg hv rfl
      · cases h
    · cases h
  · rename_i fs hq; cases hq
    have hv : ∃ cs, v = .agg cs := by
      simp only [Value.okWide, hu] at hval
      obtain ⟨cs, rfl, _⟩ := hval
      exact ⟨cs, rfl⟩
    split at h
    · rename_i a ha
      split at h
      · simp only [Option.some.injEq] at h; subst h
        refine agg hv ?_
        cases hfs : fs.toList with
        | nil => rw [hfs] at ha; simp only [readFs, Option.some.injEq] at ha; subst ha; rfl
        | cons f r =>
          rw [hfs] at ha
          simp only [readFs] at ha
          split at ha
          · split at ha
            · simp only [Option.some.injEq] at ha; subst ha; rfl
            · cases ha
          · cases ha
      · cases h
    · cases h
  · cases h

/-- a function's run, out of its spec: of a world of which nothing is known -/
theorem calls_of_spec {g : FuncId} {s : Spec} (hs : SpecOK P g s) {args : List AV} {b : Bool} {e : Eff} (hrun : s (AV × Eff) args [] [] 0 (fun v e => some (v, e)) = some (.data .bool b, e)) {vals : List Value}
    (hr : RepL w (below w) (fun _ => none) [] args vals) : Calls P g vals.toArray w fun en w' => en = .returned (.bool b) ∧ Below w.heap.size w w' := by
  obtain ⟨v, e', h1, _, _, h4⟩ := hs _ args [] [] 0 _ _ hrun
  simp only [Option.some.injEq, Prod.mk.injEq] at h1
  obtain ⟨rfl, rfl⟩ := h1
  have hi : HI w (below w) (fun _ => none) [] [] := ⟨fun id o h => by simp at h, fun i j b c b' c' h => by simp [owned] at h, fun i b c h => by simp [owned] at h, fun i T t xs b c h => by simp at h, fun b h => h, rfl⟩
  refine (h4 w _ _ vals hi hr).mono ?_
  rintro en w' ⟨u, rfl, F', m', ⟨hx, _⟩, hu⟩
  have hb : u = .bool b := rep_bool hu
  subst hb
  exact ⟨rfl, hx.os, hx.tape, hx.output, hx.size, fun i hi => hx.keep i hi fun j c ho _ => by simp [owned] at ho⟩
end

section
variable {H : Type} {enc : TypeId × Value → H} {P : Program}
theorem post_of_below {f : Func} {s : ChangeSpec} {apart fresh handsOn again : Bool} {W W' : World} {args : Array Value} {v : Value} {ds gs : List (DataW H)} {before pa pv : List MemPlace}
    (hW : DataW.Whole enc P f.params.toList s.vars apart W args.toList ds gs before)
    (hres : ∀ (b : Nat) (sp : Nat → Bool) (hd : Bool), DataW.TrodAll enc P W' b sp hd f.resultTypes.toList (v.resultList f.resultTypes.size) (s.fn H (ds ++ gs)).results [])
    (hargs : ∀ sp : Nat → Bool, (∀ p ∈ before, sp p.block = true) → DataW.TrodAll enc P W' 0 sp true f.params.toList args.toList (s.fn H (ds ++ gs)).args pa)
    (hvars : ∀ sp : Nat → Bool, (∀ p ∈ before, sp p.block = true) → DataW.TrodVars enc P W' sp s.vars (s.fn H (ds ++ gs)).vars pv)
    (hps : before = pa ++ pv) (hb : Below W.heap.size W W')
    (hok : ∀ (j : Nat) (t : TypeId) (r : Value), f.resultTypes[j]? = some t → (v.resultList f.resultTypes.size)[j]? = some r → Value.okWide P W' .any 0 t r) :
    s.post enc P f apart fresh handsOn again W args v W' := by
  have hlt : ∀ p ∈ before, p.block < W.heap.size := fun p hp => hW.lt p hp
  have hold : ∀ p ∈ before, (fun b => decide (b < W.heap.size)) p.block = true := fun p hp => by simpa using hlt p hp
  refine ⟨ds, gs, before, [], pa, pv, hW, hres _ _ _, hargs _ hold, hvars _ hold, World.keptBut_mono (fun p hp => ⟨hp, ?_⟩) (hb.frame (· ∈ before)), fun _ => ?_⟩
  · rw [hps, List.mem_append] at hp
    exact Or.inr hp
  · obtain ⟨_, _, _, _, _, hz, hn⟩ := hW
    refine ⟨hok, _, _, ([] ++ pa) ++ pv, ⟨[] ++ pa, pv, trodAll_append (hargs _ (fun _ _ => rfl)) (hres _ _ _), hvars _ (fun _ _ => rfl), rfl, ?_, ?_⟩, ?_⟩
    · intro b off hp
      have hin : MemPlace.cell b off ∈ before := by rw [hps]; simpa using hp
      rw [hb.frozen (hlt _ hin)]
      exact hz b off hin
    · intro ha
      have := hn ha
      rw [hps] at this
      simpa using this
    · intro p hp _
      rw [hps]
      simpa using hp

/-- an argument reads behind the call as it did -/
theorem trod_after {t : TypeId} (hl : laidOutB P = true) (hr : P.readableRec t = true) (hrow : t < P.types.size) {W W' : World} {v : Value} {d : DataW H} {ps : List MemPlace}
    (h : DataW.Trod enc P W 0 (fun _ => true) true t v d ps) (hb : Below W.heap.size W W') (hlt : ∀ x ∈ ps, x.block < W.heap.size) {sp : Nat → Bool} (hs : ∀ x ∈ ps, sp x.block = true) :
    DataW.Trod enc P W' 0 sp true t v d ps :=
  WideElems.Trod_stays hl hr hrow h (fun x hx => hb.same (hlt x hx)) hs
end
end Go.Pev
end
section
/- What many laws of forests want. -/
namespace Go.Pev.Pl
open Go.RowKit Tok
theorem ieq_self (a : Int) : ieq a a = true := by rw [ieq_eq]; simp
def Dom (rings : List (List Int)) : Prop := rings.length < 1073741824 ∧ ∀ l ∈ rings, l.length < 9223372036854775808 ∧ ∀ x ∈ l, -9223372036854775808 ≤ x ∧ x ≤ 9223372036854775807
theorem FR.dom {n : Int} {rings : List (List Int)} (h : FR n rings) : Dom rings := by
  have h1 := RF_iff.2 h
  have h2 := okR_len h.sz.1 h1.2.1 (by omega) (by have := h.sz.1; omega)
  have h3 := h.sz.2
  refine ⟨by omega, fun l hl => ?_⟩
  have := (h.rg l hl).1
  exact ⟨by have := this.1; omega, fun x hx => by have := this.2.1 x hx; omega⟩
theorem hd_mem {l : List Int} (h : l ≠ []) : hd l ∈ l := by
  cases l with
  | nil => exact absurd rfl h
  | cons x l => simp [hd]
theorem tof_val (n : Int) (rings : List (List Int)) (v : Int) (hD : Dom rings) : tof ((n, (rings, ())), v, ()) = some (if RF n rings ∧ In n v then plc rings v else -1, ()) := by
  rw [tof_eq, tof_d]
  simp only [tin_val, tright_val n rings hD.1 hD.2, tplace_val n rings v hD.1 (fun l hl => (hD.2 l hl).1)]
  by_cases h1 : In n v
  · by_cases h2 : RF n rings <;> simp [h1, h2]
  · simp [h1]
theorem of18_val (n : Int) (rings : List (List Int)) (v : Int) (hD : Dom rings) : of18 ((n, (rings, ())), v, ()) = some (if RF n rings ∧ In n v then plc rings v else -1, ()) := by
  rw [of18_eq, of18_d]
  simp only [in18_val, right18_val n rings hD.1 hD.2, place18_val n rings v hD.1 (fun l hl => (hD.2 l hl).1)]
  by_cases h1 : In n v
  · by_cases h2 : RF n rings <;> simp [h1, h2]
  · by_cases h2 : RF n rings <;> simp [h1, h2]
theorem wfD_rings {n : Int} {rings : List (List Int)} (h : wfD (.prod (.int .i64) (.prod (.slice (.slice (.int .i64))) .unit)) (n, (rings, ()))) :
    rings.length < 9223372036854775808 ∧ ∀ l ∈ rings, l.length < 9223372036854775808 ∧ ∀ x ∈ l, -9223372036854775808 ≤ x ∧ x ≤ 9223372036854775807 := by
  obtain ⟨_, ⟨h1, h2⟩, _⟩ := h
  have hm : maxLen < 9223372036854775808 := by decide
  exact ⟨Nat.lt_of_le_of_lt h1 hm, fun l hl => ⟨Nat.lt_of_le_of_lt (h2 l hl).1 hm, fun x hx => (h2 l hl).2 x hx⟩⟩
end Go.Pev.Pl
end
section
/- The sort of numbers. -/
namespace Go.Pev.Pl.SI
open Go.Sort
theorem lessI_val (x y : Int) : lessI (x, y, ()) = some (ltInt x y, ()) := by
  simp only [lessI_eq, lessI_d, nanI_eq, nanI_d, ilt_eq, ieq_eq, ltInt]
  by_cases h : x < y <;> simp [h]

theorem insI_in (a b i : Nat) : ∀ (j : Nat) (d : Array Int) (n : Nat), j < d.size → d.size < 4611686018427387904 → j < n →
    iterO insI_s1 n (d.toList, (a : Int), (b : Int), (i : Int), (j : Int), ()) = some (.inl ((insInner ltInt a j d).toList, (a : Int), (b : Int), (i : Int), ())) := by
  intro j
  induction j with
  | zero =>
    intro d n hj hs hn
    obtain ⟨n, rfl⟩ : ∃ k, n = k + 1 := ⟨n - 1, by omega⟩
    have h0 : ilt (a : Int) ((0 : Nat) : Int) = false := by rw [ilt_nat]; simp
    simp only [iterO, insI_s1, h0, insInner]
  | succ j ih =>
    intro d n hj hs hn
    obtain ⟨n, rfl⟩ : ∃ k, n = k + 1 := ⟨n - 1, by omega⟩
    have e1 : IntKind.wrap .i64 (((j + 1 : Nat) : Int) - 1) = (j : Int) := by rw [wrap_in (by omega)]; omega
    have hj' : j < d.size := by omega
    simp only [iterO, insI_s1, ilt_nat, e1, idx_at hj, idx_at hj', dget_at hj, dget_at hj', lessI_val, insInner, gt_iff_lt]
    by_cases h1 : a < j + 1
    · cases h2 : ltInt d[j + 1]! d[j]!
      · simp only [h1, decide_true, h2, Bool.and_false, Bool.false_eq_true, if_false]
      · simp only [h1, decide_true, h2, Bool.and_true, if_true, dset_at]
        rw [idx_at (by simpa using hj')]
        simp only [swp_fold]
        exact ih (swp d (j + 1) j) n (by rw [size_swp]; omega) (by rw [size_swp]; omega) (by omega)
    · simp only [h1, decide_false, Bool.false_and, Bool.false_eq_true, if_false]

theorem size_insInner (lt : Int → Int → Bool) (a j : Nat) (d : Array Int) : (insInner lt a j d).size = d.size := by
  induction j generalizing d with
  | zero => rfl
  | succ j ih =>
    rw [insInner]
    split
    · rw [ih, size_swp]
    · rfl

theorem insI_out (a b : Nat) : ∀ (k i : Nat) (d : Array Int) (n : Nat), b - i = k → b ≤ d.size → d.size < 4611686018427387904 → d.size < many → k < n →
    iterO insI_s0 n (d.toList, (a : Int), (b : Int), (i : Int), ()) = some (.inl ((insOuter ltInt a b i d).toList, ())) := by
  intro k
  induction k with
  | zero =>
    intro i d n hk hb hs hm hn
    obtain ⟨n, rfl⟩ : ∃ k, n = k + 1 := ⟨n - 1, by omega⟩
    have h0 : ¬ i < b := by omega
    rw [insOuter]
    simp only [iterO, insI_s0, ilt_nat, h0, decide_false, if_false]
  | succ k ih =>
    intro i d n hk hb hs hm hn
    obtain ⟨n, rfl⟩ : ∃ k, n = k + 1 := ⟨n - 1, by omega⟩
    have h0 : i < b := by omega
    have e1 : IntKind.wrap .i64 ((i : Int) + 1) = ((i + 1 : Nat) : Int) := by rw [wrap_in (by omega)]; omega
    rw [insOuter]
    simp only [iterO, insI_s0, ilt_nat, h0, decide_true, if_true, iterL_eq]
    rw [insI_in a b i i d many (by omega) hs (by omega)]
    simp only [e1]
    exact ih (i + 1) _ n (by omega) (by rw [size_insInner]; omega) (by rw [size_insInner]; omega) (by rw [size_insInner]; omega) (by omega)

theorem insI_val (d : Array Int) (a b : Nat) (hab : a ≤ b) (hb : b ≤ d.size) (hs : d.size < 4294967296) : insI (d.toList, (a : Int), (b : Int), ()) = some ((insertionSort ltInt d a b).toList, ()) := by
  have hm : d.size < many := by simp only [many]; omega
  have e1 : IntKind.wrap .i64 ((a : Int) + 1) = ((a + 1 : Nat) : Int) := by rw [wrap_in (by omega)]; omega
  rw [insI_eq, insI_d]
  simp only [e1, iterL_eq]
  rw [insI_out a b (b - (a + 1)) (a + 1) d many rfl hb (by omega) hm (by omega)]
  rfl
end Go.Pev.Pl.SI
end
section
namespace Go.Pev.Pl.SI
open Go.Sort
theorem siftI_loop (hi first : Nat) : ∀ (k root : Nat) (d : Array Int) (n : Nat), hi - root = k → root ≤ hi → first + hi ≤ d.size → d.size < 4294967296 → (hi = 0 ∨ root < hi) → k < n →
    iterO siftI_s0 n (d.toList, (hi : Int), (first : Int), (root : Int), ()) = some (.inl ((siftDown ltInt hi first root d).toList, ())) ∨
    iterO siftI_s0 n (d.toList, (hi : Int), (first : Int), (root : Int), ()) = some (.inr (.inl ((siftDown ltInt hi first root d).toList, ()))) := by
  intro k
  induction k using Nat.strongRecOn with
  | _ k ih =>
  intro root d n hk hr hf hs hz hn
  obtain ⟨n, rfl⟩ : ∃ k, n = k + 1 := ⟨n - 1, by omega⟩
  rw [siftDown]
  simp (disch := omega) only [iterO, siftI_s0, wrap_2mul, wrap_add1, wrap_add, ile_nat, ilt_nat]
  by_cases h1 : hi ≤ 2 * root + 1
  · simp only [h1, decide_true, ge_iff_le, dite_true, true_or]
  · have i0 : first + root < d.size := by omega
    have i1 : first + (2 * root + 1) < d.size := by omega
    simp only [h1, decide_false, ge_iff_le, if_false, dite_false]
    simp (disch := omega) only [idx_at, dget_at, lessI_val]
    by_cases h2 : 2 * root + 1 + 1 < hi
    · have i2 : first + (2 * root + 2) < d.size := by omega
      have i3 : 2 * root + 1 + 1 = 2 * root + 2 := by omega
      have i4 : first + (2 * root + 1) + 1 = first + (2 * root + 2) := by omega
      have h3 : 2 * root + 2 < hi := by omega
      simp only [i3, i4, h3, decide_true]
      simp (disch := omega) only [idx_at, dget_at, lessI_val, dset_at]
      cases h4 : ltInt d[first + (2 * root + 1)]! d[first + (2 * root + 2)]!
      · simp only [Bool.and_false, Bool.false_eq_true, if_false]
        cases h5 : ltInt d[first + root]! d[first + (2 * root + 1)]!
        · simp
        · simp only [Bool.not_true, Bool.false_eq_true, if_false]
          rw [idx_at (by simpa using i1)]
          simp only [swp_fold]
          exact ih (hi - (2 * root + 1)) (by omega) (2 * root + 1) _ n rfl (by omega) (by rw [size_swp]; omega) (by rw [size_swp]; omega) (by omega) (by omega)
      · simp only [Bool.and_true, if_true]
        cases h5 : ltInt d[first + root]! d[first + (2 * root + 2)]!
        · simp
        · simp only [Bool.not_true, Bool.false_eq_true, if_false, dite_true]
          rw [idx_at (by simpa using i2)]
          simp only [swp_fold]
          exact ih (hi - (2 * root + 2)) (by omega) (2 * root + 2) _ n rfl (by omega) (by rw [size_swp]; omega) (by rw [size_swp]; omega) (by omega) (by omega)
    · simp only [h2, decide_false, Bool.false_and, Bool.false_eq_true, if_false, dset_at]
      cases h5 : ltInt d[first + root]! d[first + (2 * root + 1)]!
      · simp
      · simp only [Bool.not_true, Bool.false_eq_true, if_false]
        rw [idx_at (by simpa using i1)]
        simp only [swp_fold]
        exact ih (hi - (2 * root + 1)) (by omega) (2 * root + 1) _ n rfl (by omega) (by rw [size_swp]; omega) (by rw [size_swp]; omega) (by omega) (by omega)

theorem siftI_val (d : Array Int) (root hi first : Nat) (hf : first + hi ≤ d.size) (hs : d.size < 4294967296) (hz : hi = 0 ∧ root = 0 ∨ root < hi) : siftI (d.toList, (root : Int), (hi : Int), (first : Int), ()) = some ((siftDown ltInt hi first root d).toList, ()) := by
  have hm : d.size < many := by simp only [many]; omega
  rw [siftI_eq, siftI_d]
  simp only [iterL_eq]
  rcases siftI_loop hi first (hi - root) root d many rfl (by omega) hf hs (by omega) (by omega) with h | h <;> rw [h]

theorem size_siftDown (lt : Int → Int → Bool) (hi first : Nat) : ∀ (k root : Nat) (d : Array Int), hi - root = k → (siftDown lt hi first root d).size = d.size := by
  intro k
  induction k using Nat.strongRecOn with
  | _ k ih =>
  intro root d hk
  rw [siftDown]
  split
  · rfl
  · split
    · split
      · rfl
      · split
        · rw [ih (hi - (2 * root + 2)) (by omega) _ _ rfl, size_swp]
        · rfl
    · split
      · rfl
      · rw [ih (hi - (2 * root + 1)) (by omega) _ _ rfl, size_swp]

theorem heapI_build (hi first : Nat) : ∀ (k : Nat) (d : Array Int) (n : Nat), (hi = 0 ∧ k ≤ 1 ∨ k ≤ hi) → first + hi ≤ d.size → d.size < 4294967296 → k < n →
    iterO heapI_s0 n (d.toList, (first : Int), (0 : Int), (hi : Int), (k : Int) - 1, ()) = some (.inl ((heapBuild ltInt hi first k d).toList, (first : Int), (0 : Int), (hi : Int), ())) := by
  intro k
  induction k with
  | zero =>
    intro d n hk hf hs hn
    obtain ⟨n, rfl⟩ : ∃ k, n = k + 1 := ⟨n - 1, by omega⟩
    rw [iterO, heapI_s0, ile_eq, decide_eq_false (by omega)]
    rfl
  | succ k ih =>
    intro d n hk hf hs hn
    obtain ⟨n, rfl⟩ : ∃ k, n = k + 1 := ⟨n - 1, by omega⟩
    have e0 : ((k + 1 : Nat) : Int) - 1 = (k : Int) := by omega
    rw [iterO, heapI_s0, e0, ile_eq, decide_eq_true (by omega)]
    simp only [siftI_val d k hi first hf hs (by omega)]
    rw [wrap_in (by omega)]
    exact ih _ n (by omega) (by rw [size_siftDown _ _ _ _ _ _ rfl]; omega) (by rw [size_siftDown _ _ _ _ _ _ rfl]; omega) (by omega)

theorem size_heapBuild (lt : Int → Int → Bool) (hi first : Nat) : ∀ (k : Nat) (d : Array Int), (heapBuild lt hi first k d).size = d.size := by
  intro k
  induction k with
  | zero => intro d; rfl
  | succ k ih => intro d; rw [heapBuild, ih, size_siftDown _ _ _ _ _ _ rfl]

theorem heapI_pop (first : Nat) : ∀ (k : Nat) (d : Array Int) (n : Nat), first + k ≤ d.size → d.size < 4294967296 → k < n →
    iterO heapI_s1 n (d.toList, (first : Int), (0 : Int), (k : Int) - 1, ()) = some (.inl ((heapPop ltInt first k d).toList, ())) := by
  intro k
  induction k with
  | zero =>
    intro d n hf hs hn
    obtain ⟨n, rfl⟩ : ∃ k, n = k + 1 := ⟨n - 1, by omega⟩
    rw [iterO, heapI_s1, ile_eq, decide_eq_false (by omega)]
    rfl
  | succ k ih =>
    intro d n hf hs hn
    obtain ⟨n, rfl⟩ : ∃ k, n = k + 1 := ⟨n - 1, by omega⟩
    have e0 : ((k + 1 : Nat) : Int) - 1 = (k : Int) := by omega
    have i0 : first < d.size := by omega
    have i1 : first + k < d.size := by omega
    rw [iterO, heapI_s1, e0, ile_eq, decide_eq_true (by omega)]
    simp (disch := omega) only [wrap_add, idx_at, dget_at, dset_at]
    rw [idx_at (by simpa using i1)]
    simp only [swp_fold]
    have := siftI_val (swp d first (first + k)) 0 k first (by rw [size_swp]; omega) (by rw [size_swp]; omega) (by omega)
    simp only [Int.natCast_zero] at this
    simp only [this]
    rw [wrap_in (by omega)]
    exact ih _ n (by rw [size_siftDown _ _ _ _ _ _ rfl, size_swp]; omega) (by rw [size_siftDown _ _ _ _ _ _ rfl, size_swp]; omega) (by omega)

theorem heapI_val (d : Array Int) (a b : Nat) (hab : a < b) (hb : b ≤ d.size) (hs : d.size < 4294967296) : heapI (d.toList, (a : Int), (b : Int), ()) = some ((heapSort ltInt d a b).toList, ()) := by
  have hm : 4294967296 < many := by simp only [many]; omega
  rw [heapI_eq, heapI_d]
  simp (disch := omega) only [wrap_sub, wrap_sub1, quo_2, iterL_eq]
  have e : (((b - a - 1) / 2 : Nat) : Int) = (((b - a - 1) / 2 + 1 : Nat) : Int) - 1 := by omega
  rw [e, heapI_build (b - a) a _ d many (by omega) (by omega) hs (by omega)]
  have e2 : (((b - a - 1 : Nat)) : Int) = ((b - a : Nat) : Int) - 1 := by omega
  simp (disch := omega) only [wrap_sub1, e2]
  rw [heapI_pop a (b - a) _ many (by rw [size_heapBuild]; omega) (by rw [size_heapBuild]; omega) (by omega)]
  rfl
end Go.Pev.Pl.SI
end
section
namespace Go.Pev.Pl.SI
open Go.Sort
theorem revI_loop : ∀ (k i j : Nat) (d : Array Int) (n : Nat), j - i = k → (j < d.size) → d.size < 4294967296 → k < n →
    iterO revI_s0 n (d.toList, (i : Int), (j : Int), ()) = some (.inl ((reverseLoop i j d).toList, ())) := by
  intro k
  induction k using Nat.strongRecOn with
  | _ k ih =>
  intro i j d n hk hj hs hn
  obtain ⟨n, rfl⟩ : ∃ k, n = k + 1 := ⟨n - 1, by omega⟩
  rw [reverseLoop, iterO, revI_s0]
  simp only [ilt_nat]
  by_cases h : i < j
  · have hi : i < d.size := by omega
    simp only [h, decide_true, if_true, idx_at hj, idx_at hi, dget_at hi, dget_at hj, dset_at]
    rw [idx_at (by simpa using hj)]
    simp (disch := omega) only [swp_fold, wrap_add1, wrap_sub1]
    exact ih (j - 1 - (i + 1)) (by omega) (i + 1) (j - 1) _ n rfl (by rw [size_swp]; omega) (by rw [size_swp]; omega) (by omega)
  · simp only [h, decide_false, if_false]

theorem revI_val (d : Array Int) (a b : Nat) (hab : a < b) (hb : b ≤ d.size) (hs : d.size < 4294967296) : revI (d.toList, (a : Int), (b : Int), ()) = some ((reverseRange d a b).toList, ()) := by
  have hm : 4294967296 < many := by simp only [many]; omega
  rw [revI_eq, revI_d]
  simp (disch := omega) only [wrap_sub1, iterL_eq]
  rw [revI_loop (b - 1 - a) a (b - 1) d many rfl (by omega) hs (by omega)]
  rfl

theorem swapI {d : Array Int} {i j : Nat} (hi : i < d.size) (hj : j < d.size) : idx (dset d.toList (dnat (i : Int)) (dget d.toList (dnat (j : Int)) 0)) (j : Int) = some (d.setIfInBounds i d[j]!)[j]! ∧
    dset (dset d.toList (dnat (i : Int)) (dget d.toList (dnat (j : Int)) 0)) (dnat (j : Int)) (dget d.toList (dnat (i : Int)) 0) = (swp d i j).toList := by
  rw [dget_at hi, dget_at hj, dset_at, dset_at]
  exact ⟨idx_at (by simpa using hj), rfl⟩

/- the scans -/
theorem scanUpI (step : List Int × Int × Int × Int × Unit → Option ((List Int × Int × Int × Int × Unit) ⊕ (List Int × Int × Int × Int × Unit) ⊕ Unit)) (p : Int → Bool) (d : Array Int) (a j : Nat) (hs : d.size < 4294967296) (hj : j < d.size)
    (h : ∀ i : Nat, i ≤ d.size → step (d.toList, (a : Int), (i : Int), (j : Int), ()) = if i ≤ j ∧ p d[i]! then some (.inl (d.toList, (a : Int), ((i + 1 : Nat) : Int), (j : Int), ())) else some (.inr (.inl (d.toList, (a : Int), (i : Int), (j : Int), ())))) :
    ∀ (k i n : Nat), j + 1 - i = k → i ≤ d.size → k < n → iterO step n (d.toList, (a : Int), (i : Int), (j : Int), ()) = some (.inl (d.toList, (a : Int), ((scanUp p d j i : Nat) : Int), (j : Int), ())) := by
  intro k
  induction k using Nat.strongRecOn with
  | _ k ih =>
  intro i n hk hi hn
  obtain ⟨n, rfl⟩ : ∃ k, n = k + 1 := ⟨n - 1, by omega⟩
  rw [scanUp, iterO, h i hi]
  by_cases h1 : i ≤ j ∧ p d[i]! = true
  · rw [if_pos h1, if_pos (by simpa using h1)]
    exact ih (j + 1 - (i + 1)) (by omega) (i + 1) n rfl (by omega) (by omega)
  · rw [if_neg h1, if_neg (by simpa using h1)]

theorem scanDownI (step : List Int × Int × Int × Int × Unit → Option ((List Int × Int × Int × Int × Unit) ⊕ (List Int × Int × Int × Int × Unit) ⊕ Unit)) (p : Int → Bool) (d : Array Int) (a i : Nat) (hi : 1 ≤ i)
    (h : ∀ j : Nat, j < d.size → step (d.toList, (a : Int), (i : Int), (j : Int), ()) = if i ≤ j ∧ p d[j]! then some (.inl (d.toList, (a : Int), (i : Int), ((j - 1 : Nat) : Int), ())) else some (.inr (.inl (d.toList, (a : Int), (i : Int), (j : Int), ())))) :
    ∀ (j n : Nat), j < d.size → j < n → iterO step n (d.toList, (a : Int), (i : Int), (j : Int), ()) = some (.inl (d.toList, (a : Int), (i : Int), ((scanDown p d i j : Nat) : Int), ())) := by
  intro j
  induction j with
  | zero =>
    intro n hj hn
    obtain ⟨n, rfl⟩ : ∃ k, n = k + 1 := ⟨n - 1, by omega⟩
    rw [iterO, h 0 hj, if_neg (by omega)]
    rfl
  | succ j ih =>
    intro n hj hn
    obtain ⟨n, rfl⟩ : ∃ k, n = k + 1 := ⟨n - 1, by omega⟩
    rw [scanDown, iterO, h (j + 1) hj]
    by_cases h1 : i ≤ j + 1 ∧ p d[j + 1]! = true
    · rw [if_pos h1, if_pos (by simpa using h1)]
      exact ih n (by omega) (by omega)
    · rw [if_neg h1, if_neg (by simpa using h1)]

section
variable (d : Array Int) (a i j : Nat) (hs : d.size < 4294967296) (ha : a < d.size) (hj : j < d.size)
include hs ha hj
theorem partI_s0_at (hi : i ≤ d.size) : partI_s0 (d.toList, (a : Int), (i : Int), (j : Int), ()) = if i ≤ j ∧ (fun x => ltInt x d[a]!) d[i]! = true then some (.inl (d.toList, (a : Int), ((i + 1 : Nat) : Int), (j : Int), ())) else some (.inr (.inl (d.toList, (a : Int), (i : Int), (j : Int), ()))) := by
  rw [partI_s0]
  simp only [ile_nat]
  by_cases h : i ≤ j
  · have hi' : i < d.size := by omega
    simp (disch := omega) only [h, decide_true, idx_at, dget_at, lessI_val, wrap_add1, true_and]
    cases ltInt d[i]! d[a]! <;> simp
  · simp only [h, decide_false, false_and, if_false]
theorem partI_s3_at (hi : i ≤ d.size) : partI_s3 (d.toList, (a : Int), (i : Int), (j : Int), ()) = if i ≤ j ∧ (fun x => ltInt x d[a]!) d[i]! = true then some (.inl (d.toList, (a : Int), ((i + 1 : Nat) : Int), (j : Int), ())) else some (.inr (.inl (d.toList, (a : Int), (i : Int), (j : Int), ()))) := by
  rw [partI_s3]
  simp only [ile_nat]
  by_cases h : i ≤ j
  · have hi' : i < d.size := by omega
    simp (disch := omega) only [h, decide_true, idx_at, dget_at, lessI_val, wrap_add1, true_and]
    cases ltInt d[i]! d[a]! <;> simp
  · simp only [h, decide_false, false_and, if_false]
theorem partI_s1_at (hi : 1 ≤ i) : partI_s1 (d.toList, (a : Int), (i : Int), (j : Int), ()) = if i ≤ j ∧ (fun x => !ltInt x d[a]!) d[j]! = true then some (.inl (d.toList, (a : Int), (i : Int), ((j - 1 : Nat) : Int), ())) else some (.inr (.inl (d.toList, (a : Int), (i : Int), (j : Int), ()))) := by
  rw [partI_s1]
  simp only [ile_nat]
  by_cases h : i ≤ j
  · simp (disch := omega) only [h, decide_true, idx_at, dget_at, lessI_val, wrap_sub1, true_and]
    cases ltInt d[j]! d[a]! <;> simp
  · simp only [h, decide_false, false_and, if_false]
theorem partI_s4_at (hi : 1 ≤ i) : partI_s4 (d.toList, (a : Int), (i : Int), (j : Int), ()) = if i ≤ j ∧ (fun x => !ltInt x d[a]!) d[j]! = true then some (.inl (d.toList, (a : Int), (i : Int), ((j - 1 : Nat) : Int), ())) else some (.inr (.inl (d.toList, (a : Int), (i : Int), (j : Int), ()))) := by
  rw [partI_s4]
  simp only [ile_nat]
  by_cases h : i ≤ j
  · simp (disch := omega) only [h, decide_true, idx_at, dget_at, lessI_val, wrap_sub1, true_and]
    cases ltInt d[j]! d[a]! <;> simp
  · simp only [h, decide_false, false_and, if_false]
theorem partEqI_s1_at (hi : i ≤ d.size) : partEqI_s1 (d.toList, (a : Int), (i : Int), (j : Int), ()) = if i ≤ j ∧ (fun x => !ltInt d[a]! x) d[i]! = true then some (.inl (d.toList, (a : Int), ((i + 1 : Nat) : Int), (j : Int), ())) else some (.inr (.inl (d.toList, (a : Int), (i : Int), (j : Int), ()))) := by
  rw [partEqI_s1]
  simp only [ile_nat]
  by_cases h : i ≤ j
  · have hi' : i < d.size := by omega
    simp (disch := omega) only [h, decide_true, idx_at, dget_at, lessI_val, wrap_add1, true_and]
    cases ltInt d[a]! d[i]! <;> simp
  · simp only [h, decide_false, false_and, if_false]
theorem partEqI_s2_at (hi : 1 ≤ i) : partEqI_s2 (d.toList, (a : Int), (i : Int), (j : Int), ()) = if i ≤ j ∧ (fun x => ltInt d[a]! x) d[j]! = true then some (.inl (d.toList, (a : Int), (i : Int), ((j - 1 : Nat) : Int), ())) else some (.inr (.inl (d.toList, (a : Int), (i : Int), (j : Int), ()))) := by
  rw [partEqI_s2]
  simp only [ile_nat]
  by_cases h : i ≤ j
  · simp (disch := omega) only [h, decide_true, idx_at, dget_at, lessI_val, wrap_sub1, true_and]
    cases ltInt d[a]! d[j]! <;> simp
  · simp only [h, decide_false, false_and, if_false]
end

theorem scanUp_size (p : Int → Bool) (d : Array Int) (j i : Nat) (hj : j < d.size) (hi : i ≤ d.size) : scanUp p d j i ≤ d.size := by
  suffices h : ∀ (k i : Nat), j + 1 - i = k → i ≤ d.size → scanUp p d j i ≤ d.size from h _ i rfl hi
  intro k
  induction k using Nat.strongRecOn with
  | _ k ih =>
  intro i hk hi
  rw [scanUp]
  split
  · rename_i h
    have : i ≤ j := by simp at h; exact h.1
    exact ih (j + 1 - (i + 1)) (by omega) (i + 1) rfl (by omega)
  · exact hi

theorem partI_loop (a : Nat) : ∀ (k i j : Nat) (d : Array Int) (n : Nat), j + 1 - i = k → a < d.size → 1 ≤ i → i ≤ d.size → j < d.size → d.size < 4294967296 → k < n →
    iterO partI_s2 n (d.toList, (a : Int), (i : Int), (j : Int), ()) = some (.inl ((partLoop ltInt a i j d).2.toList, (a : Int), (((partLoop ltInt a i j d).1 : Nat) : Int), ())) ∧ (partLoop ltInt a i j d).1 ≤ j ∧ (partLoop ltInt a i j d).2.size = d.size := by
  intro k
  induction k using Nat.strongRecOn with
  | _ k ih =>
  intro i j d n hk ha hi hi' hj hs hn
  have hm : 4294967296 < many := by simp only [many]; omega
  obtain ⟨n, rfl⟩ : ∃ k, n = k + 1 := ⟨n - 1, by omega⟩
  rw [partLoop_eq, iterO, partI_s2]
  have u1 := scanUp_ge (fun x => ltInt x d[a]!) d j i
  have u2 := scanUp_size (fun x => ltInt x d[a]!) d j i hj hi'
  rw [iterL_eq, scanUpI _ (fun x => ltInt x d[a]!) d a j hs hj (fun i h => partI_s3_at d a i j hs ha hj h) _ i many rfl hi' (by omega)]
  generalize scanUp (fun x => ltInt x d[a]!) d j i = i2 at *
  have v1 := scanDown_le (fun x => !ltInt x d[a]!) d i2 j
  simp only [iterL_eq]
  rw [scanDownI _ (fun x => !ltInt x d[a]!) d a i2 (by omega) (fun j h => partI_s4_at d a i2 j hs ha h (by omega)) j many hj (by omega)]
  generalize scanDown (fun x => !ltInt x d[a]!) d i2 j = j2 at *
  simp only [ilt_nat]
  by_cases h : j2 < i2
  · simp only [h, decide_true, gt_iff_lt, if_true]
    exact ⟨trivial, v1, trivial⟩
  · have hi2 : i2 < d.size := by omega
    have hj2 : j2 < d.size := by omega
    simp only [h, decide_false, gt_iff_lt, if_false, idx_at hi2, idx_at hj2, (swapI hi2 hj2).1, (swapI hi2 hj2).2]
    simp (disch := omega) only [wrap_add1, wrap_sub1]
    obtain ⟨q1, q2, q3⟩ := ih (j2 - 1 + 1 - (i2 + 1)) (by omega) (i2 + 1) (j2 - 1) (swp d i2 j2) n rfl (by rw [size_swp]; omega) (by omega) (by rw [size_swp]; omega) (by rw [size_swp]; omega) (by rw [size_swp]; omega) (by omega)
    exact ⟨q1, by omega, by rw [q3, size_swp]⟩

theorem partI_val (d : Array Int) (a b p : Nat) (ha : a ≤ p) (hp : p < b) (hb : b ≤ d.size) (hs : d.size < 4294967296) :
    partI (d.toList, (a : Int), (b : Int), (p : Int), ()) = some ((partition ltInt d a b p).2.2.toList, (((partition ltInt d a b p).1 : Nat) : Int), (partition ltInt d a b p).2.1, ()) := by
  have hm : 4294967296 < many := by simp only [many]; omega
  have ha' : a < d.size := by omega
  have hp' : p < d.size := by omega
  rw [partI_eq, partI_d, partition]
  simp only [idx_at ha', idx_at hp', (swapI ha' hp').1, (swapI ha' hp').2]
  have hs' := hs
  rw [← size_swp d a p] at ha' hs' hb
  generalize swp d a p = d at *
  simp (disch := omega) only [wrap_add1, wrap_sub1, iterL_eq]
  have u1 := scanUp_ge (fun x => ltInt x d[a]!) d (b - 1) (a + 1)
  have u2 := scanUp_size (fun x => ltInt x d[a]!) d (b - 1) (a + 1) (by omega) (by omega)
  rw [scanUpI _ (fun x => ltInt x d[a]!) d a (b - 1) hs' (by omega) (fun i h => partI_s0_at d a i (b - 1) hs' ha' (by omega) h) _ (a + 1) many rfl (by omega) (by omega)]
  generalize scanUp (fun x => ltInt x d[a]!) d (b - 1) (a + 1) = i2 at *
  have v1 := scanDown_le (fun x => !ltInt x d[a]!) d i2 (b - 1)
  simp only []
  rw [scanDownI _ (fun x => !ltInt x d[a]!) d a i2 (by omega) (fun j h => partI_s1_at d a i2 j hs' ha' h (by omega)) (b - 1) many (by omega) (by omega)]
  generalize scanDown (fun x => !ltInt x d[a]!) d i2 (b - 1) = j2 at *
  simp only [ilt_nat]
  have hj2 : j2 < d.size := by omega
  by_cases h : j2 < i2
  · simp only [h, decide_true, gt_iff_lt, if_true, idx_at ha', idx_at hj2, (swapI hj2 ha').1, (swapI hj2 ha').2]
  · have hi2 : i2 < d.size := by omega
    simp only [h, decide_false, gt_iff_lt, if_false, idx_at hi2, idx_at hj2, (swapI hi2 hj2).1, (swapI hi2 hj2).2]
    simp (disch := omega) only [wrap_add1, wrap_sub1]
    obtain ⟨q1, q2, q3⟩ := partI_loop a (j2 - 1 + 1 - (i2 + 1)) (i2 + 1) (j2 - 1) (swp d i2 j2) many rfl (by rw [size_swp]; omega) (by omega) (by rw [size_swp]; omega) (by rw [size_swp]; omega) (by rw [size_swp]; omega) (by omega)
    simp only [q1]
    rw [size_swp] at q3
    generalize partLoop ltInt a (i2 + 1) (j2 - 1) (swp d i2 j2) = r at *
    have h1 : r.1 < r.2.size := by omega
    have h2 : a < r.2.size := by omega
    simp only [idx_at h1, idx_at h2, (swapI h1 h2).1, (swapI h1 h2).2]

theorem partEqI_loop (a : Nat) : ∀ (k i j : Nat) (d : Array Int) (n : Nat), j + 1 - i = k → a < d.size → 1 ≤ i → i ≤ d.size → j < d.size → d.size < 4294967296 → k < n →
    iterO partEqI_s0 n (d.toList, (a : Int), (i : Int), (j : Int), ()) = some (.inl ((partEqLoop ltInt a i j d).2.toList, (((partEqLoop ltInt a i j d).1 : Nat) : Int), ())) := by
  intro k
  induction k using Nat.strongRecOn with
  | _ k ih =>
  intro i j d n hk ha hi hi' hj hs hn
  have hm : 4294967296 < many := by simp only [many]; omega
  obtain ⟨n, rfl⟩ : ∃ k, n = k + 1 := ⟨n - 1, by omega⟩
  rw [partEqLoop_eq, iterO, partEqI_s0]
  have u1 := scanUp_ge (fun x => !ltInt d[a]! x) d j i
  have u2 := scanUp_size (fun x => !ltInt d[a]! x) d j i hj hi'
  rw [iterL_eq, scanUpI _ (fun x => !ltInt d[a]! x) d a j hs hj (fun i h => partEqI_s1_at d a i j hs ha hj h) _ i many rfl hi' (by omega)]
  generalize scanUp (fun x => !ltInt d[a]! x) d j i = i2 at *
  have v1 := scanDown_le (fun x => ltInt d[a]! x) d i2 j
  simp only [iterL_eq]
  rw [scanDownI _ (fun x => ltInt d[a]! x) d a i2 (by omega) (fun j h => partEqI_s2_at d a i2 j hs ha h (by omega)) j many hj (by omega)]
  generalize scanDown (fun x => ltInt d[a]! x) d i2 j = j2 at *
  simp only [ilt_nat]
  by_cases h : j2 < i2
  · simp only [h, decide_true, gt_iff_lt, if_true]
  · have hi2 : i2 < d.size := by omega
    have hj2 : j2 < d.size := by omega
    simp only [h, decide_false, gt_iff_lt, if_false, idx_at hi2, idx_at hj2, (swapI hi2 hj2).1, (swapI hi2 hj2).2]
    simp (disch := omega) only [wrap_add1, wrap_sub1]
    exact ih (j2 - 1 + 1 - (i2 + 1)) (by omega) (i2 + 1) (j2 - 1) (swp d i2 j2) n rfl (by rw [size_swp]; omega) (by omega) (by rw [size_swp]; omega) (by rw [size_swp]; omega) (by rw [size_swp]; omega) (by omega)

theorem partEqI_val (d : Array Int) (a b p : Nat) (ha : a ≤ p) (hp : p < b) (hb : b ≤ d.size) (hs : d.size < 4294967296) :
    partEqI (d.toList, (a : Int), (b : Int), (p : Int), ()) = some ((partitionEqual ltInt d a b p).2.toList, (((partitionEqual ltInt d a b p).1 : Nat) : Int), ()) := by
  have hm : 4294967296 < many := by simp only [many]; omega
  have ha' : a < d.size := by omega
  have hp' : p < d.size := by omega
  rw [partEqI_eq, partEqI_d, partitionEqual]
  simp only [idx_at ha', idx_at hp', (swapI ha' hp').1, (swapI ha' hp').2]
  have hs' := hs
  rw [← size_swp d a p] at ha' hs' hb
  generalize swp d a p = d at *
  simp (disch := omega) only [wrap_add1, wrap_sub1, iterL_eq]
  rw [partEqI_loop a _ (a + 1) (b - 1) d many rfl ha' (by omega) (by omega) (by omega) hs' (by omega)]
end Go.Pev.Pl.SI
end
section
namespace Go.Pev.Pl.SI
open Go.Sort
theorem scanSorted_bounds (d : Array Int) (b : Nat) : ∀ (k i : Nat), b - i = k → i ≤ b → i ≤ scanSorted ltInt d b i ∧ scanSorted ltInt d b i ≤ b := by
  intro k
  induction k using Nat.strongRecOn with
  | _ k ih =>
  intro i hk hi
  rw [scanSorted]
  split
  · rename_i h
    have : i < b := by simp at h; exact h.1
    have := ih (b - (i + 1)) (by omega) (i + 1) rfl (by omega)
    omega
  · omega

theorem partInsI_scan (d : Array Int) (a b s : Nat) (hb : b ≤ d.size) (hs : d.size < 4294967296) : ∀ (k i n : Nat), b - i = k → 1 ≤ i → i ≤ b → k < n →
    iterO partInsI_s1 n (d.toList, (a : Int), (b : Int), (i : Int), (s : Int), ()) = some (.inl (d.toList, (a : Int), (b : Int), ((scanSorted ltInt d b i : Nat) : Int), (s : Int), ())) := by
  intro k
  induction k using Nat.strongRecOn with
  | _ k ih =>
  intro i n hk h1 hi hn
  obtain ⟨n, rfl⟩ : ∃ k, n = k + 1 := ⟨n - 1, by omega⟩
  rw [scanSorted, iterO, partInsI_s1]
  simp only [ilt_nat]
  by_cases h : i < b
  · have i0 : i < d.size := by omega
    have i1 : i - 1 < d.size := by omega
    simp (disch := omega) only [h, decide_true, wrap_sub1, wrap_add1, idx_at, dget_at, lessI_val, Bool.true_and]
    cases h2 : ltInt d[i]! d[i - 1]!
    · simp only [Bool.not_false, if_true]
      exact ih (b - (i + 1)) (by omega) (i + 1) n rfl (by omega) (by omega) (by omega)
    · simp only [Bool.not_true, Bool.false_eq_true, if_false]
  · simp only [h, decide_false, Bool.false_and, Bool.false_eq_true, if_false]

theorem partInsI_down (a b i s : Nat) : ∀ (j : Nat) (d : Array Int) (n : Nat), j < d.size → d.size < 4294967296 → j < n →
    iterO partInsI_s2 n (d.toList, (a : Int), (b : Int), (i : Int), (s : Int), (j : Int), ()) = some (.inl ((shiftDown ltInt j d).toList, (a : Int), (b : Int), (i : Int), (s : Int), ())) := by
  intro j
  induction j with
  | zero =>
    intro d n hj hs hn
    obtain ⟨n, rfl⟩ : ∃ k, n = k + 1 := ⟨n - 1, by omega⟩
    rw [iterO, partInsI_s2, ile_eq, decide_eq_false (by omega)]
    rfl
  | succ j ih =>
    intro d n hj hs hn
    obtain ⟨n, rfl⟩ : ∃ k, n = k + 1 := ⟨n - 1, by omega⟩
    have hj' : j < d.size := by omega
    rw [shiftDown, iterO, partInsI_s2, ile_eq, decide_eq_true (by omega)]
    simp (disch := omega) only [wrap_sub1, Nat.add_sub_cancel, idx_at, dget_at, lessI_val]
    cases h2 : ltInt d[j + 1]! d[j]!
    · simp only [Bool.not_false, if_true]
    · have e1 := swapI hj hj'
      simp only [dget_at hj, dget_at hj'] at e1
      simp only [Bool.not_true, Bool.false_eq_true, if_false, e1]
      exact ih _ n (by rw [size_swp]; omega) (by rw [size_swp]; omega) (by omega)

theorem partInsI_up (a b i s : Nat) : ∀ (k j : Nat) (d : Array Int) (n : Nat), b - j = k → 1 ≤ j → b ≤ d.size → d.size < 4294967296 → k < n →
    iterO partInsI_s3 n (d.toList, (a : Int), (b : Int), (i : Int), (s : Int), (j : Int), ()) = some (.inl ((shiftUp ltInt b j d).toList, (a : Int), (b : Int), (i : Int), (s : Int), ())) := by
  intro k
  induction k using Nat.strongRecOn with
  | _ k ih =>
  intro j d n hk h1 hb hs hn
  obtain ⟨n, rfl⟩ : ∃ k, n = k + 1 := ⟨n - 1, by omega⟩
  rw [shiftUp, iterO, partInsI_s3]
  simp only [ilt_nat]
  by_cases h : j < b
  · have i0 : j < d.size := by omega
    have i1 : j - 1 < d.size := by omega
    simp (disch := omega) only [h, decide_true, if_true, wrap_sub1, wrap_add1, idx_at, dget_at, lessI_val]
    cases h2 : ltInt d[j]! d[j - 1]!
    · simp only [Bool.not_false, if_true]
    · have e1 := swapI i0 i1
      simp only [dget_at i0, dget_at i1] at e1
      simp only [Bool.not_true, Bool.false_eq_true, if_false, e1]
      exact ih (b - (j + 1)) (by omega) (j + 1) _ n rfl (by omega) (by rw [size_swp]; omega) (by rw [size_swp]; omega) (by omega)
  · simp only [h, decide_false, if_false]

theorem size_shiftDown : ∀ (j : Nat) (d : Array Int), (shiftDown ltInt j d).size = d.size := by
  intro j
  induction j with
  | zero => intro d; rfl
  | succ j ih =>
    intro d
    rw [shiftDown]
    split
    · rfl
    · rw [ih, size_swp]
theorem size_shiftUp (b : Nat) : ∀ (k j : Nat) (d : Array Int), b - j = k → (shiftUp ltInt b j d).size = d.size := by
  intro k
  induction k using Nat.strongRecOn with
  | _ k ih =>
  intro j d hk
  rw [shiftUp]
  split
  · split
    · rfl
    · rw [ih (b - (j + 1)) (by omega) (j + 1) _ rfl, size_swp]
  · rfl

theorem partInsI_loop (a b : Nat) (hab : a < b) : ∀ (k i s : Nat) (d : Array Int) (n : Nat), s + k = 5 → a + 1 ≤ i → i ≤ b → b ≤ d.size → d.size < 4294967296 → k < n →
    iterO partInsI_s0 n (d.toList, (a : Int), (b : Int), (i : Int), (s : Int), ()) = some (.inl ((partialIns ltInt a b k i d).1.toList, (partialIns ltInt a b k i d).2, ())) ∨
    ((partialIns ltInt a b k i d).2 = false ∧ iterO partInsI_s0 n (d.toList, (a : Int), (b : Int), (i : Int), (s : Int), ()) = some (.inr (.inl ((partialIns ltInt a b k i d).1.toList, ())))) := by
  intro k
  induction k with
  | zero =>
    intro i s d n hk h1 hi hb hs hn
    obtain ⟨n, rfl⟩ : ∃ k, n = k + 1 := ⟨n - 1, by omega⟩
    rw [iterO, partInsI_s0, ilt_eq, decide_eq_false (by omega)]
    exact .inr ⟨rfl, rfl⟩
  | succ k ih =>
    intro i s d n hk h1 hi hb hs hn
    have hm : 4294967296 < many := by simp only [many]; omega
    have es : IntKind.wrap .i64 ((s : Int) + 1) = ((s + 1 : Nat) : Int) := wrap_add1 (by omega)
    obtain ⟨n, rfl⟩ : ∃ k, n = k + 1 := ⟨n - 1, by omega⟩
    rw [iterO, partInsI_s0, ilt_eq, decide_eq_true (by omega), partialIns]
    simp only [iterL_eq, partInsI_scan d a b s hb hs (b - i) i many rfl (by omega) hi (by omega)]
    have hsc := scanSorted_bounds d b _ i rfl hi
    generalize scanSorted ltInt d b i = i2 at *
    simp only [ieq_nat]
    by_cases h2 : i2 = b
    · simp only [h2, decide_true, if_true, true_or]
    · simp (disch := omega) only [h2, decide_false, if_false, wrap_sub, ilt_eq, ile_eq]
      by_cases h3 : b - a < 50
      · rw [if_pos h3, decide_eq_true (by omega)]
        exact .inl rfl
      · have i0 : i2 < d.size := by omega
        have i1 : i2 - 1 < d.size := by omega
        rw [if_neg h3, decide_eq_false (by omega)]
        simp (disch := omega) only [wrap_sub1, wrap_add1, idx_at i0, idx_at i1, (swapI i0 i1).1, (swapI i0 i1).2]
        have hsz := size_swp d i2 (i2 - 1)
        generalize swp d i2 (i2 - 1) = d2 at *
        by_cases h4 : i2 - a ≥ 2
        · rw [if_pos h4, decide_eq_true (show (2 : Int) ≤ ((i2 - a : Nat) : Int) by omega)]
          simp only [partInsI_down a b i2 s (i2 - 1) d2 many (by omega) (by omega) (by omega)]
          have hsz2 := size_shiftDown (i2 - 1) d2
          generalize shiftDown ltInt (i2 - 1) d2 = d3 at *
          simp (disch := omega) only [wrap_sub, wrap_add1]
          by_cases h5 : b - i2 ≥ 2
          · rw [if_pos h5, decide_eq_true (show (2 : Int) ≤ ((b - i2 : Nat) : Int) by omega)]
            simp only [partInsI_up a b i2 s _ (i2 + 1) d3 many rfl (by omega) (by omega) (by omega) (by omega)]
            simp only [es]
            exact ih i2 (s + 1) (shiftUp ltInt b (i2 + 1) d3) n (by omega) (by omega) (by omega) (by rw [size_shiftUp b (b - (i2 + 1)) (i2 + 1) _ rfl]; omega) (by rw [size_shiftUp b (b - (i2 + 1)) (i2 + 1) _ rfl]; omega) (by omega)
          · rw [if_neg h5, decide_eq_false (show ¬ (2 : Int) ≤ ((b - i2 : Nat) : Int) by omega)]
            simp only [es]
            exact ih i2 (s + 1) d3 n (by omega) (by omega) (by omega) (by omega) (by omega) (by omega)
        · rw [if_neg h4, decide_eq_false (show ¬ (2 : Int) ≤ ((i2 - a : Nat) : Int) by omega)]
          by_cases h5 : b - i2 ≥ 2
          · rw [if_pos h5, decide_eq_true (show (2 : Int) ≤ ((b - i2 : Nat) : Int) by omega)]
            simp only [partInsI_up a b i2 s _ (i2 + 1) d2 many rfl (by omega) (by omega) (by omega) (by omega)]
            simp only [es]
            exact ih i2 (s + 1) (shiftUp ltInt b (i2 + 1) d2) n (by omega) (by omega) (by omega) (by rw [size_shiftUp b (b - (i2 + 1)) (i2 + 1) _ rfl]; omega) (by rw [size_shiftUp b (b - (i2 + 1)) (i2 + 1) _ rfl]; omega) (by omega)
          · rw [if_neg h5, decide_eq_false (show ¬ (2 : Int) ≤ ((b - i2 : Nat) : Int) by omega)]
            simp only [es]
            exact ih i2 (s + 1) d2 n (by omega) (by omega) (by omega) (by omega) (by omega) (by omega)

theorem partInsI_val (d : Array Int) (a b : Nat) (hab : a < b) (hb : b ≤ d.size) (hs : d.size < 4294967296) :
    partInsI (d.toList, (a : Int), (b : Int), ()) = some ((partialInsertionSort ltInt d a b).1.toList, (partialInsertionSort ltInt d a b).2, ()) := by
  have hm : 4294967296 < many := by simp only [many]; omega
  rw [partInsI_eq, partInsI_d, partialInsertionSort]
  simp (disch := omega) only [wrap_add1, iterL_eq]
  have h := partInsI_loop a b hab 5 (a + 1) 0 d many rfl (Nat.le_refl _) (by omega) hb hs (by omega)
  rcases h with h | ⟨h0, h⟩
  · have h' : iterO partInsI_s0 many (d.toList, (a : Int), (b : Int), ((a + 1 : Nat) : Int), (0 : Int), ()) = _ := h
    rw [h']
  · have h' : iterO partInsI_s0 many (d.toList, (a : Int), (b : Int), ((a + 1 : Nat) : Int), (0 : Int), ()) = _ := h
    rw [h', h0]

/- the pivot: of it only its place is told -/
theorem order2I_val (d : Array Int) (a b : Nat) (s : Int) (ha : a < d.size) (hb : b < d.size) :
    ∃ s' p q, order2I (d.toList, (a : Int), (b : Int), s, ()) = some (d.toList, s', ((p : Nat) : Int), ((q : Nat) : Int), ()) ∧ (p = a ∧ q = b ∨ p = b ∧ q = a) := by
  rw [order2I_eq, order2I_d]
  simp only [idx_at ha, idx_at hb, dget_at ha, dget_at hb, lessI_val]
  cases ltInt d[b]! d[a]!
  · exact ⟨_, a, b, rfl, .inl ⟨rfl, rfl⟩⟩
  · exact ⟨_, b, a, rfl, .inr ⟨rfl, rfl⟩⟩

theorem medianI_val (d : Array Int) (a b c : Nat) (s : Int) (ha : a < d.size) (hb : b < d.size) (hc : c < d.size) :
    ∃ s' p, medianI (d.toList, (a : Int), (b : Int), (c : Int), s, ()) = some (d.toList, s', ((p : Nat) : Int), ()) ∧ (p = a ∨ p = b ∨ p = c) := by
  rw [medianI_eq, medianI_d]
  obtain ⟨s1, p1, q1, e1, h1⟩ := order2I_val d a b s ha hb
  simp only [e1]
  obtain ⟨s2, p2, q2, e2, h2⟩ := order2I_val d q1 c s1 (by omega) hc
  simp only [e2]
  obtain ⟨s3, p3, q3, e3, h3⟩ := order2I_val d p1 p2 s2 (by omega) (by omega)
  simp only [e3]
  exact ⟨_, q3, rfl, by omega⟩

theorem medAdjI_val (d : Array Int) (a : Nat) (s : Int) (h1 : 1 ≤ a) (ha : a + 1 < d.size) (hs : d.size < 4294967296) :
    ∃ s' p, medAdjI (d.toList, (a : Int), s, ()) = some (d.toList, s', ((p : Nat) : Int), ()) ∧ a ≤ p + 1 ∧ p ≤ a + 1 := by
  rw [medAdjI_eq, medAdjI_d]
  simp (disch := omega) only [wrap_sub1, wrap_add1]
  obtain ⟨s1, p1, e1, h1⟩ := medianI_val d (a - 1) a (a + 1) s (by omega) (by omega) ha
  simp only [e1]
  exact ⟨_, p1, rfl, by omega⟩

theorem pivotI_val (d : Array Int) (a b : Nat) (hab : a + 8 ≤ b) (hb : b ≤ d.size) (hs : d.size < 4294967296) :
    ∃ p h, pivotI (d.toList, (a : Int), (b : Int), ()) = some (d.toList, ((p : Nat) : Int), h, ()) ∧ a ≤ p ∧ p < b := by
  rw [pivotI_eq, pivotI_d]
  simp (disch := omega) only [wrap_sub, quo_4, wrap_mul1, wrap_mul2, wrap_mul3, wrap_add, ile_eq]
  rw [decide_eq_true (show (8 : Int) ≤ ((b - a : Nat) : Int) by omega)]
  simp only []
  by_cases h : 50 ≤ b - a
  · rw [decide_eq_true (show (50 : Int) ≤ ((b - a : Nat) : Int) by omega)]
    simp only []
    obtain ⟨s1, p1, e1, h1⟩ := medAdjI_val d (a + (b - a) / 4 * 1) 0 (by omega) (by omega) hs
    simp only [e1]
    obtain ⟨s2, p2, e2, h2⟩ := medAdjI_val d (a + (b - a) / 4 * 2) s1 (by omega) (by omega) hs
    simp only [e2]
    obtain ⟨s3, p3, e3, h3⟩ := medAdjI_val d (a + (b - a) / 4 * 3) s2 (by omega) (by omega) hs
    simp only [e3]
    obtain ⟨s4, p4, e4, h4⟩ := medianI_val d p1 p2 p3 s3 (by omega) (by omega) (by omega)
    simp only [e4]
    cases ieq s4 0
    · cases ieq s4 12
      · exact ⟨p4, _, rfl, by omega, by omega⟩
      · exact ⟨p4, _, rfl, by omega, by omega⟩
    · exact ⟨p4, _, rfl, by omega, by omega⟩
  · rw [decide_eq_false (show ¬ (50 : Int) ≤ ((b - a : Nat) : Int) by omega)]
    simp only []
    obtain ⟨s4, p4, e4, h4⟩ := medianI_val d (a + (b - a) / 4 * 1) (a + (b - a) / 4 * 2) (a + (b - a) / 4 * 3) 0 (by omega) (by omega) (by omega)
    simp only [e4]
    cases ieq s4 0
    · cases ieq s4 12
      · exact ⟨p4, _, rfl, by omega, by omega⟩
      · exact ⟨p4, _, rfl, by omega, by omega⟩
    · exact ⟨p4, _, rfl, by omega, by omega⟩
end Go.Pev.Pl.SI
end
section
/- Bits: how long a number is. -/
namespace Go.Pev.Pl
open Go.Sort
set_option maxRecDepth 100000
theorem lenTab_ok : (List.range 256).all (fun k => match lenTab[k]? with
    | some v => decide (0 ≤ v) && (decide (v ≤ 8) && decide (2 ^ v.toNat ≤ max 1 (2 * k)))
    | none => false) = true := by decide +kernel
theorem lenTab_at {k : Nat} (h : k < 256) : ∃ v : Nat, idx lenTab (k : Int) = some (v : Int) ∧ v ≤ 8 ∧ 2 ^ v ≤ max 1 (2 * k) := by
  have := List.all_eq_true.1 lenTab_ok k (List.mem_range.2 h)
  rw [idx_eq, idxR, if_neg (by omega), Int.toNat_natCast]
  cases e : lenTab[k]? with
  | none => rw [e] at this; cases this
  | some v =>
    rw [e] at this
    simp only [Bool.and_eq_true, decide_eq_true_eq] at this
    exact ⟨v.toNat, by rw [Int.toNat_of_nonneg this.1], by omega, this.2.2⟩
theorem shr_nat (n s : Nat) (h : s ≤ 64) : shr? .u64 (n : Int) (s : Int) = some ((n / 2 ^ s : Nat) : Int) := by
  rw [shr_eq, shrR, if_neg (by omega), Int.toNat_natCast, show min s (IntKind.bits .u64) = s from Nat.min_eq_left h, Int.fdiv_eq_ediv_of_nonneg _ (Int.pow_nonneg (by omega))]
  rfl
theorem u8_in {n : Int} (h : 0 ≤ n ∧ n ≤ 255) : IntKind.wrap .u8 n = n := IntWalk.u8_in n h
theorem u64_in {n : Int} (h : 0 ≤ n ∧ n ≤ 18446744073709551615) : IntKind.wrap .u64 n = n := IntWalk.u64_in n h
theorem len64_val (n : Nat) (hn : n < 4294967296) : ∃ v : Nat, len64 ((n : Int), ()) = some ((v : Int), ()) ∧ v ≤ 32 ∧ 2 ^ v ≤ max 1 (2 * n) := by
  rw [len64_eq, len64_d, ile_eq, decide_eq_false (by omega)]
  simp only [ile_eq]
  have key : ∀ (s m : Nat), s ≤ 24 → m < 256 → m * 2 ^ s ≤ n → (s = 0 ∨ 1 ≤ m) → ∃ v : Nat, idx lenTab (m : Int) = some (v : Int) ∧ v ≤ 8 ∧ 2 ^ (s + v) ≤ max 1 (2 * n) := by
    intro s m hs hm hle h1
    obtain ⟨v, e, h8, hp⟩ := lenTab_at hm
    refine ⟨v, e, h8, ?_⟩
    rcases h1 with rfl | h1
    · rw [Nat.zero_add]; simp at hle; omega
    · have h2 : 2 ^ v ≤ 2 * m := by omega
      have h3 : 2 ^ (s + v) ≤ 2 * (m * 2 ^ s) := by
        rw [Nat.pow_add, Nat.mul_comm (2 ^ s), ← Nat.mul_assoc]
        exact Nat.mul_le_mul_right _ h2
      omega
  by_cases h1 : 65536 ≤ n
  · rw [decide_eq_true (show (65536 : Int) ≤ (n : Int) by omega)]
    have e16 : shr? .u64 (n : Int) 16 = some ((n / 65536 : Nat) : Int) := shr_nat n 16 (by omega)
    simp only [e16]
    by_cases h2 : 256 ≤ n / 65536
    · rw [decide_eq_true (show (256 : Int) ≤ ((n / 65536 : Nat) : Int) by omega)]
      have e8 : shr? .u64 ((n / 65536 : Nat) : Int) 8 = some ((n / 65536 / 256 : Nat) : Int) := shr_nat _ 8 (by omega)
      obtain ⟨v, e, h8, hp⟩ := key 24 (n / 65536 / 256) (by omega) (by omega) (by omega) (by omega)
      simp only [e8]
      rw [u8_in (by omega)]
      simp only [e]
      refine ⟨24 + v, ?_, by omega, hp⟩
      rw [wrap_in (n := 0 + 16) (by omega), wrap_in (n := (0 : Int) + 16 + 8) (by omega), wrap_in (n := (v : Int)) (by omega), wrap_in (by omega)]
      congr 2
    · rw [decide_eq_false (show ¬ (256 : Int) ≤ ((n / 65536 : Nat) : Int) by omega)]
      obtain ⟨v, e, h8, hp⟩ := key 16 (n / 65536) (by omega) (by omega) (by omega) (by omega)
      simp only []
      rw [u8_in (by omega)]
      simp only [e]
      refine ⟨16 + v, ?_, by omega, hp⟩
      rw [wrap_in (n := 0 + 16) (by omega), wrap_in (n := (v : Int)) (by omega), wrap_in (by omega)]
      congr 2
  · rw [decide_eq_false (show ¬ (65536 : Int) ≤ (n : Int) by omega)]
    by_cases h2 : 256 ≤ n
    · have e8 : shr? .u64 (n : Int) 8 = some ((n / 256 : Nat) : Int) := shr_nat n 8 (by omega)
      obtain ⟨v, e, h8, hp⟩ := key 8 (n / 256) (by omega) (by omega) (by omega) (by omega)
      simp only []
      rw [decide_eq_true (show (256 : Int) ≤ (n : Int) by omega)]
      simp only [e8]
      rw [u8_in (by omega)]
      simp only [e]
      refine ⟨8 + v, ?_, by omega, hp⟩
      rw [wrap_in (n := 0 + 8) (by omega), wrap_in (n := (v : Int)) (by omega), wrap_in (by omega)]
      congr 2
    · obtain ⟨v, e, h8, hp⟩ := key 0 n (by omega) (by omega) (by omega) (by omega)
      simp only []
      rw [decide_eq_false (show ¬ (256 : Int) ≤ (n : Int) by omega)]
      simp only []
      rw [u8_in (by omega)]
      simp only [e]
      refine ⟨0 + v, ?_, by omega, hp⟩
      rw [wrap_in (n := (v : Int)) (by omega), wrap_in (by omega)]
      congr 2

theorem bitsLen_val (n : Nat) (hn : n < 4294967296) : ∃ v : Nat, bitsLen ((n : Int), ()) = some ((v : Int), ()) ∧ v ≤ 32 ∧ 2 ^ v ≤ max 1 (2 * n) := by
  rw [bitsLen_eq, bitsLen_d]
  obtain ⟨v, e, h⟩ := len64_val n hn
  simp only [e]
  exact ⟨v, rfl, h⟩

theorem nextPow_val (n : Nat) (h1 : 1 ≤ n) (hn : n < 4294967296) : ∃ m : Nat, nextPow ((n : Int), ()) = some ((m : Int), ()) ∧ 1 ≤ m ∧ m ≤ 2 * n := by
  rw [nextPow_eq, nextPow_d, u64_in (by omega)]
  obtain ⟨v, e, h32, hp⟩ := bitsLen_val n hn
  simp only [e]
  have e2 : shl? .u64 (1 : Int) (v : Int) = some ((2 ^ v : Nat) : Int) := by
    rw [shl_eq, shlR, if_neg (by omega), Int.toNat_natCast, show min v (IntKind.bits .u64) = v from Nat.min_eq_left (by show v ≤ 64; omega), Int.one_mul]
    have : 2 ^ v ≤ 2 ^ 32 := Nat.pow_le_pow_right (by omega) h32
    have h1 : 1 ≤ 2 ^ v := Nat.one_le_two_pow
    have e : ((2 : Int) ^ v) = ((2 ^ v : Nat) : Int) := by simp
    rw [e, u64_in (by constructor <;> omega)]
  simp only [e2]
  exact ⟨2 ^ v, rfl, Nat.one_le_two_pow, by omega⟩

theorem xorNext_val (r : Int) : ∃ r' y, xorNext (r, ()) = some (r', y, ()) := by
  rw [xorNext_eq, xorNext_d, shl_eq, shlR, if_neg (by omega)]
  simp only []
  rw [shr_eq, shrR, if_neg (by omega)]
  simp only []
  rw [shl_eq, shlR, if_neg (by omega)]
  exact ⟨_, _, rfl⟩

theorem other_le (y : Int) (m : Nat) (h1 : 1 ≤ m) (hm : m < 18446744073709551616) : ∃ o : Nat, IntKind.wrap .u64 ((BitVec.ofInt (IntKind.bits .u64) y &&& BitVec.ofInt (IntKind.bits .u64) (IntKind.wrap .u64 ((m : Int) - 1))).toNat) = (o : Int) ∧ o < m := by
  rw [u64_in (n := (m : Int) - 1) (by omega), show (m : Int) - 1 = ((m - 1 : Nat) : Int) by omega, BitVec.toNat_and]
  have h2 : (BitVec.ofInt (IntKind.bits .u64) ((m - 1 : Nat) : Int)).toNat = m - 1 := by
    rw [BitVec.ofInt_natCast, BitVec.toNat_ofNat]
    exact Nat.mod_eq_of_lt (by show m - 1 < 18446744073709551616; omega)
  rw [h2]
  have h3 : (BitVec.ofInt (IntKind.bits .u64) y).toNat &&& (m - 1) ≤ m - 1 := Nat.and_le_right
  exact ⟨_, u64_in (by omega), by omega⟩

end Go.Pev.Pl
end
section
namespace Go.Pev.Pl.SI
open Go.Sort
theorem breakI_loop (a b : Nat) (m : Nat) (h8 : a + 8 ≤ b) (hm1 : 1 ≤ m) (hm : m ≤ 2 * (b - a)) : ∀ (k t : Nat) (d : Array Int) (r : Int) (n : Nat), t + k = 3 → b ≤ d.size → d.size < 4294967296 → k < n →
    ∃ d' : Array Int, iterO breakI_s0 n (d.toList, (a : Int), ((b - a : Nat) : Int), r, (m : Int), ((a + (b - a) / 4 * 2 - 1 + t : Nat) : Int), ()) = some (.inl (d'.toList, ())) ∧ PermIn a b d d' := by
  intro k
  induction k with
  | zero =>
    intro t d r n hk hb hs hn
    obtain ⟨n, rfl⟩ : ∃ k, n = k + 1 := ⟨n - 1, by omega⟩
    rw [iterO, breakI_s0]
    simp (disch := omega) only [quo_4, wrap_mul2, wrap_add, wrap_add1, ile_nat]
    rw [decide_eq_false (by omega)]
    exact ⟨d, rfl, permIn_refl d a b⟩
  | succ k ih =>
    intro t d r n hk hb hs hn
    obtain ⟨n, rfl⟩ : ∃ k, n = k + 1 := ⟨n - 1, by omega⟩
    rw [iterO, breakI_s0]
    simp (disch := omega) only [quo_4, wrap_mul2, wrap_add, wrap_add1, ile_nat]
    rw [decide_eq_true (show a + (b - a) / 4 * 2 - 1 + t ≤ a + (b - a) / 4 * 2 + 1 by omega)]
    obtain ⟨r', y, e⟩ := xorNext_val r
    obtain ⟨o, e2, ho⟩ := other_le y m hm1 (by omega)
    simp only [e, e2]
    rw [wrap_in (n := (o : Int)) (by omega)]
    simp only [ile_nat]
    have i0 : a + (b - a) / 4 * 2 - 1 + t < d.size := by omega
    have fin : ∀ q : Nat, a ≤ q → q < b → ∃ d' : Array Int, iterO breakI_s0 n ((swp d (a + (b - a) / 4 * 2 - 1 + t) q).toList, (a : Int), ((b - a : Nat) : Int), r', (m : Int), ((a + (b - a) / 4 * 2 - 1 + t + 1 : Nat) : Int), ()) = some (.inl (d'.toList, ())) ∧ PermIn a b d d' := by
      intro q hq1 hq2
      obtain ⟨d', e', hp⟩ := ih (t + 1) (swp d (a + (b - a) / 4 * 2 - 1 + t) q) r' n (by omega) (by rw [size_swp]; omega) (by rw [size_swp]; omega) (by omega)
      exact ⟨d', e', permIn_trans _ _ _ a b (swp_permIn d a b _ q (by omega) (by omega) hq1 hq2 hb) hp⟩
    by_cases h : b - a ≤ o
    · have i1 : a + (o - (b - a)) < d.size := by omega
      simp (disch := omega) only [h, decide_true, wrap_sub, wrap_add, wrap_add1, idx_at i0, idx_at i1, (swapI i0 i1).1, (swapI i0 i1).2]
      exact fin _ (by omega) (by omega)
    · have i1 : a + o < d.size := by omega
      simp (disch := omega) only [h, decide_false, wrap_sub, wrap_add, wrap_add1, idx_at i0, idx_at i1, (swapI i0 i1).1, (swapI i0 i1).2]
      exact fin _ (by omega) (by omega)

theorem breakI_val (d : Array Int) (a b : Nat) (hab : a ≤ b) (hb : b ≤ d.size) (hs : d.size < 4294967296) :
    ∃ d' : Array Int, breakI (d.toList, (a : Int), (b : Int), ()) = some (d'.toList, ()) ∧ PermIn a b d d' := by
  have hm : 4294967296 < many := by simp only [many]; omega
  rw [breakI_eq, breakI_d]
  simp (disch := omega) only [wrap_sub, ile_eq]
  by_cases h : 8 ≤ b - a
  · rw [decide_eq_true (show (8 : Int) ≤ ((b - a : Nat) : Int) by omega)]
    obtain ⟨m, e, h1, h2⟩ := nextPow_val (b - a) (by omega) (by omega)
    simp only [e]
    rw [u64_in (n := ((b - a : Nat) : Int)) (by omega)]
    simp (disch := omega) only [quo_4, wrap_mul2, wrap_add, wrap_sub1, iterL_eq]
    obtain ⟨d', e2, hp⟩ := breakI_loop a b m (by omega) h1 h2 3 0 d ((b - a : Nat) : Int) many rfl hb hs (by omega)
    rw [Nat.add_zero] at e2
    simp only [e2]
    exact ⟨d', rfl, hp⟩
  · rw [decide_eq_false (show ¬ (8 : Int) ≤ ((b - a : Nat) : Int) by omega)]
    exact ⟨d, rfl, permIn_refl d a b⟩
end Go.Pev.Pl.SI
end
section
namespace Go.Pev.Pl.SI
open Go.Sort
abbrev PdqSt := List Int × Int × Int × Int × Bool × Bool × Unit
abbrev PdqOutT := PdqSt ⊕ (List Int × Unit) ⊕ Unit
noncomputable section
def pdqTail (self : (List Int × Int × Int × Int × Unit) → Option ((List Int × Unit))) (y7 : List Int) (a1 a2 p l : Int) (a4 a5 : Bool) : Option PdqOutT :=
  match (ilt (0 : Int) a1) with
  | true => match idx y7 (IntKind.wrap .i64 (a1 - (1 : Int))) with
    | none => none
    | some x9 => match idx y7 p with
      | none => none
      | some x10 => match lessI ((dget y7 (dnat (IntKind.wrap .i64 (a1 - (1 : Int)))) (0 : Int)), (dget y7 (dnat p) (0 : Int)), ()) with
        | none => none
        | some (y11, _) => match (!y11) with
          | true => match partEqI (y7, a1, a2, p, ()) with
            | none => none
            | some (y12, y13, _) => some (.inl (y12, y13, a2, l, a4, a5, ()))
          | false => match partI (y7, a1, a2, p, ()) with
            | none => none
            | some (y14, y15, y16, _) => match quo? .i64 (IntKind.wrap .i64 (a2 - a1)) (8 : Int) with
              | none => none
              | some x17 => match (ilt (IntKind.wrap .i64 (y15 - a1)) (IntKind.wrap .i64 (a2 - y15))) with
                | true => match self (y14, a1, y15, l, ()) with
                  | none => none
                  | some (y18, _) => some (.inl (y18, (IntKind.wrap .i64 (y15 + (1 : Int))), a2, l, (ile x17 (IntKind.wrap .i64 (y15 - a1))), y16, ()))
                | false => match self (y14, (IntKind.wrap .i64 (y15 + (1 : Int))), a2, l, ()) with
                  | none => none
                  | some (y19, _) => some (.inl (y19, a1, y15, l, (ile x17 (IntKind.wrap .i64 (a2 - y15))), y16, ()))
  | false => match partI (y7, a1, a2, p, ()) with
    | none => none
    | some (y20, y21, y22, _) => match quo? .i64 (IntKind.wrap .i64 (a2 - a1)) (8 : Int) with
      | none => none
      | some x23 => match (ilt (IntKind.wrap .i64 (y21 - a1)) (IntKind.wrap .i64 (a2 - y21))) with
        | true => match self (y20, a1, y21, l, ()) with
          | none => none
          | some (y24, _) => some (.inl (y24, (IntKind.wrap .i64 (y21 + (1 : Int))), a2, l, (ile x23 (IntKind.wrap .i64 (y21 - a1))), y22, ()))
        | false => match self (y20, (IntKind.wrap .i64 (y21 + (1 : Int))), a2, l, ()) with
          | none => none
          | some (y25, _) => some (.inl (y25, a1, y21, l, (ile x23 (IntKind.wrap .i64 (a2 - y21))), y22, ()))
def pdqEnd (self : (List Int × Int × Int × Int × Unit) → Option ((List Int × Unit))) (y6 : List Int) (a1 a2 p h l : Int) (a4 a5 : Bool) : Option PdqOutT :=
  match a4 with
  | true => match a5 with
    | true => match (ieq h (1 : Int)) with
      | true => match partInsI (y6, a1, a2, ()) with
        | none => none
        | some (y7, y8, _) => match y8 with
          | true => some (.inr (.inl (y7, ())))
          | false => pdqTail self y7 a1 a2 p l a4 a5
      | false => pdqTail self y6 a1 a2 p l a4 a5
    | false => pdqTail self y6 a1 a2 p l a4 a5
  | false => pdqTail self y6 a1 a2 p l a4 a5
def pdqMid (self : (List Int × Int × Int × Int × Unit) → Option ((List Int × Unit))) (y2 : List Int) (a1 a2 l : Int) (a4 a5 : Bool) : Option PdqOutT :=
  match pivotI (y2, a1, a2, ()) with
  | none => none
  | some (y3, y4, y5, _) => match (ieq y5 (2 : Int)) with
    | true => match revI (y3, a1, a2, ()) with
      | none => none
      | some (y6, _) => pdqEnd self y6 a1 a2 (IntKind.wrap .i64 ((IntKind.wrap .i64 (a2 - (1 : Int))) - (IntKind.wrap .i64 (y4 - a1)))) 1 l a4 a5
    | false => pdqEnd self y3 a1 a2 y4 y5 l a4 a5
def pdqRound (self : (List Int × Int × Int × Int × Unit) → Option ((List Int × Unit))) : PdqSt → Option PdqOutT := fun (a0, a1, a2, a3, a4, a5, _) =>
  match (ile (IntKind.wrap .i64 (a2 - a1)) (12 : Int)) with
  | true => match insI (a0, a1, a2, ()) with
    | none => none
    | some (y0, _) => some (.inr (.inl (y0, ())))
  | false => match (ieq a3 (0 : Int)) with
    | true => match heapI (a0, a1, a2, ()) with
      | none => none
      | some (y1, _) => some (.inr (.inl (y1, ())))
    | false => match (!a4) with
      | true => match breakI (a0, a1, a2, ()) with
        | none => none
        | some (y2, _) => pdqMid self y2 a1 a2 (IntKind.wrap .i64 (a3 - (1 : Int))) a4 a5
      | false => pdqMid self a0 a1 a2 a3 a4 a5
theorem pdqI_s0_round : pdqI_s0 = pdqRound := rfl
end

/-- what a round of the loop may end in -/
def PdqOut (d : Array Int) (a b : Nat) : PdqOutT → Prop
  | .inl (xs, x, y, l, _, _, _) => ∃ (e : Array Int) (i j : Nat), xs = e.toList ∧ x = (i : Int) ∧ y = (j : Int) ∧ 0 ≤ l ∧ l ≤ 100 ∧ i ≤ j ∧ j ≤ e.size ∧ e.size = d.size ∧ j - i < b - a ∧ Below ltInt i j e ∧
      ∀ R, PermIn i j e R → SortedIn ltInt i j R → PermIn a b d R ∧ SortedIn ltInt a b R
  | .inr (.inl (xs, _)) => ∃ R : Array Int, xs = R.toList ∧ PermIn a b d R ∧ SortedIn ltInt a b R
  | .inr (.inr _) => False

def PdqCalls (self : (List Int × Int × Int × Int × Unit) → Option ((List Int × Unit))) (m : Nat) : Prop :=
  ∀ (d : Array Int) (a b : Nat) (l : Int), a ≤ b → b ≤ d.size → d.size < 4294967296 → 0 ≤ l → l ≤ 100 → Below ltInt a b d → 2 * (b - a) < m →
    ∃ R : Array Int, self (d.toList, (a : Int), (b : Int), l, ()) = some (R.toList, ()) ∧ PermIn a b d R ∧ SortedIn ltInt a b R

section
variable {self : (List Int × Int × Int × Int × Unit) → Option ((List Int × Unit))} {d : Array Int} {a b : Nat} {l : Int}
theorem pdq_part (hself : PdqCalls self (b - a)) (hb : b ≤ d.size) (hs : d.size < 4294967296) (hl : 0 ≤ l ∧ l ≤ 100)
    {d3 : Array Int} {p : Nat} (P3 : PermIn a b d d3) (B3 : Below ltInt a b d3) (hp1 : a ≤ p) (hp2 : p < b) :
    ∃ o, (match partI (d3.toList, (a : Int), (b : Int), (p : Int), ()) with
    | none => none
    | some (y20, y21, y22, _) => match quo? .i64 (IntKind.wrap .i64 ((b : Int) - (a : Int))) (8 : Int) with
      | none => none
      | some x23 => match (ilt (IntKind.wrap .i64 (y21 - (a : Int))) (IntKind.wrap .i64 ((b : Int) - y21))) with
        | true => match self (y20, (a : Int), y21, l, ()) with
          | none => none
          | some (y24, _) => some ((.inl (y24, (IntKind.wrap .i64 (y21 + (1 : Int))), (b : Int), l, (ile x23 (IntKind.wrap .i64 (y21 - (a : Int)))), y22, ())) : PdqOutT)
        | false => match self (y20, (IntKind.wrap .i64 (y21 + (1 : Int))), (b : Int), l, ()) with
          | none => none
          | some (y25, _) => some (.inl (y25, (a : Int), y21, l, (ile x23 (IntKind.wrap .i64 ((b : Int) - y21))), y22, ()))) = some o ∧ PdqOut d a b o := by
  have b3 : b ≤ d3.size := by rw [P3.1]; exact hb
  have s3 : d3.size < 4294967296 := by rw [P3.1]; exact hs
  rw [partI_val d3 a b p hp1 hp2 b3 s3]
  rcases hx : partition ltInt d3 a b p with ⟨mid, ap, d4⟩
  obtain ⟨g1, g2, hs4, hBa, hBr, hleft, hright⟩ := round_part swo_ltInt (partition_holds _) hp1 hp2 b3 B3 hx
  simp (disch := omega) only [wrap_sub, wrap_add1, quo_8, ilt_nat]
  have b4 : b ≤ d4.size := by omega
  by_cases h : mid - a < b - mid
  · obtain ⟨L, e, l1, l2⟩ := hself d4 a mid l g1 (by omega) (by omega) hl.1 hl.2 hBa (by omega)
    simp only [h, decide_true, e]
    obtain ⟨hBL, hfin⟩ := hleft _ l1 l2
    refine ⟨_, rfl, L, mid + 1, b, rfl, rfl, rfl, hl.1, hl.2, by omega, by rw [l1.1]; exact b4, by rw [l1.1, hs4, P3.1], by omega, hBL, fun R r1 r2 => ?_⟩
    obtain ⟨q1, q2⟩ := hfin R r1 r2
    exact ⟨permIn_trans _ _ _ a b P3 q1, q2⟩
  · obtain ⟨L, e, l1, l2⟩ := hself d4 (mid + 1) b l (by omega) (by omega) (by omega) hl.1 hl.2 hBr (by omega)
    simp only [h, decide_false, e]
    obtain ⟨hBL, hfin⟩ := hright _ l1 l2
    refine ⟨_, rfl, L, a, mid, rfl, rfl, rfl, hl.1, hl.2, by omega, by rw [l1.1]; omega, by rw [l1.1, hs4, P3.1], by omega, hBL, fun R r1 r2 => ?_⟩
    obtain ⟨q1, q2⟩ := hfin R r1 r2
    exact ⟨permIn_trans _ _ _ a b P3 q1, q2⟩

theorem pdq_tail (hself : PdqCalls self (b - a)) (hb : b ≤ d.size) (hs : d.size < 4294967296) (hl : 0 ≤ l ∧ l ≤ 100)
    {d3 : Array Int} {p : Nat} (wb wp : Bool) (P3 : PermIn a b d d3) (B3 : Below ltInt a b d3) (hp1 : a ≤ p) (hp2 : p < b) :
    ∃ o, pdqTail self d3.toList (a : Int) (b : Int) (p : Int) l wb wp = some o ∧ PdqOut d a b o := by
  have b3 : b ≤ d3.size := by rw [P3.1]; exact hb
  have s3 : d3.size < 4294967296 := by rw [P3.1]; exact hs
  rw [pdqTail, ilt_eq]
  by_cases h0 : 0 < a
  · rw [decide_eq_true (by omega)]
    have i0 : a - 1 < d3.size := by omega
    have i1 : p < d3.size := by omega
    simp (disch := omega) only [wrap_sub1, idx_at, dget_at, lessI_val]
    cases hc : ltInt d3[a - 1]! d3[p]!
    · simp only [Bool.not_false]
      rw [partEqI_val d3 a b p hp1 hp2 b3 s3]
      rcases hx : partitionEqual ltInt d3 a b p with ⟨mid, d4⟩
      obtain ⟨hm1, hm2, hs4, hB4, hfin⟩ := round_eq swo_ltInt (partitionEqual_holds _) h0 hp1 hp2 b3 B3 hc hx
      refine ⟨_, rfl, d4, mid, b, rfl, rfl, rfl, hl.1, hl.2, by omega, by omega, by rw [hs4, P3.1], by omega, hB4, fun R r1 r2 => ?_⟩
      obtain ⟨q1, q2⟩ := hfin R r1 r2
      exact ⟨permIn_trans _ _ _ a b P3 q1, q2⟩
    · simp only [Bool.not_true]
      exact pdq_part hself hb hs hl P3 B3 hp1 hp2
  · rw [decide_eq_false (by omega)]
    exact pdq_part hself hb hs hl P3 B3 hp1 hp2

theorem pdq_end (hself : PdqCalls self (b - a)) (hab : a < b) (hb : b ≤ d.size) (hs : d.size < 4294967296) (hl : 0 ≤ l ∧ l ≤ 100)
    {d3 : Array Int} {p : Nat} (h : Int) (wb wp : Bool) (P3 : PermIn a b d d3) (B3 : Below ltInt a b d3) (hp1 : a ≤ p) (hp2 : p < b) :
    ∃ o, pdqEnd self d3.toList (a : Int) (b : Int) (p : Int) h l wb wp = some o ∧ PdqOut d a b o := by
  have b3 : b ≤ d3.size := by rw [P3.1]; exact hb
  have s3 : d3.size < 4294967296 := by rw [P3.1]; exact hs
  unfold pdqEnd
  cases wb
  · exact pdq_tail hself hb hs hl _ _ P3 B3 hp1 hp2
  · cases wp
    · exact pdq_tail hself hb hs hl _ _ P3 B3 hp1 hp2
    · simp only []
      cases ieq h 1
      · exact pdq_tail hself hb hs hl _ _ P3 B3 hp1 hp2
      · simp only []
        rw [partInsI_val d3 a b hab b3 s3]
        obtain ⟨q1, q2⟩ := partialInsertionSort_holds (lt := ltInt) swo_ltInt d3 a b hab b3 B3
        rcases hx : partialInsertionSort ltInt d3 a b with ⟨d4, fin⟩
        rw [hx] at q1 q2
        have P4 : PermIn a b d d4 := permIn_trans _ _ _ a b P3 q1
        cases fin
        · exact pdq_tail hself hb hs hl _ _ P4 (B3.perm b3 q1) hp1 hp2
        · exact ⟨_, rfl, d4, rfl, P4, q2 rfl⟩

theorem pdq_mid (hself : PdqCalls self (b - a)) (hab : a + 8 ≤ b) (hb : b ≤ d.size) (hs : d.size < 4294967296) (hl : 0 ≤ l ∧ l ≤ 100)
    {d3 : Array Int} (wb wp : Bool) (P3 : PermIn a b d d3) (B3 : Below ltInt a b d3) :
    ∃ o, pdqMid self d3.toList (a : Int) (b : Int) l wb wp = some o ∧ PdqOut d a b o := by
  have b3 : b ≤ d3.size := by rw [P3.1]; exact hb
  have s3 : d3.size < 4294967296 := by rw [P3.1]; exact hs
  rw [pdqMid]
  obtain ⟨p, h, e, hp1, hp2⟩ := pivotI_val d3 a b hab b3 s3
  simp only [e]
  cases ieq h 2
  · exact pdq_end hself (by omega) hb hs hl h _ _ P3 B3 hp1 hp2
  · simp only [revI_val d3 a b (by omega) b3 s3]
    have q1 := reverseRange_holds (α := Int) d3 a b (by omega) b3
    simp (disch := omega) only [wrap_sub1, wrap_sub]
    exact pdq_end hself (by omega) hb hs hl 1 _ _ (permIn_trans _ _ _ a b P3 q1) (B3.perm b3 q1) (by omega) (by omega)

theorem pdq_round (hself : PdqCalls self (b - a)) (hab : a ≤ b) (hb : b ≤ d.size) (hs : d.size < 4294967296) (hl : 0 ≤ l ∧ l ≤ 100) (wb wp : Bool) (B : Below ltInt a b d) :
    ∃ o, pdqI_s0 self (d.toList, (a : Int), (b : Int), l, wb, wp, ()) = some o ∧ PdqOut d a b o := by
  rw [pdqI_s0_round, pdqRound]
  simp (disch := omega) only [wrap_sub, ile_eq, ieq_eq]
  by_cases h12 : b - a ≤ 12
  · rw [decide_eq_true (show ((b - a : Nat) : Int) ≤ 12 by omega)]
    simp only [insI_val d a b hab hb hs]
    obtain ⟨q1, q2⟩ := insertionSort_holds (lt := ltInt) swo_ltInt d a b hab hb
    exact ⟨_, rfl, _, rfl, q1, q2⟩
  · rw [decide_eq_false (show ¬ ((b - a : Nat) : Int) ≤ 12 by omega)]
    simp only []
    by_cases h0 : l = 0
    · subst h0
      simp only [BEq.rfl, heapI_val d a b (by omega) hb hs]
      obtain ⟨q1, q2⟩ := heapSort_holds (lt := ltInt) swo_ltInt d a b hab hb
      exact ⟨_, rfl, _, rfl, q1, q2⟩
    · rw [show (l == 0) = false by simpa using h0]
      simp only []
      cases wb
      · obtain ⟨d', e, q1⟩ := breakI_val d a b hab hb hs
        simp only [Bool.not_false, e]
        rw [wrap_in (by omega)]
        exact pdq_mid hself (by omega) hb hs (by omega) _ _ q1 (B.perm hb q1)
      · simp only [Bool.not_true]
        exact pdq_mid hself (by omega) hb hs hl _ _ (permIn_refl d a b) B
end

theorem pdq_loop {self : (List Int × Int × Int × Int × Unit) → Option ((List Int × Unit))} {m : Nat} (hself : PdqCalls self m) : ∀ (k : Nat) (d : Array Int) (a b : Nat) (l : Int) (wb wp : Bool) (n : Nat), b - a = k → k ≤ m → a ≤ b → b ≤ d.size → d.size < 4294967296 → 0 ≤ l → l ≤ 100 → Below ltInt a b d → k < n →
    ∃ R : Array Int, iterO (pdqI_s0 self) n (d.toList, (a : Int), (b : Int), l, wb, wp, ()) = some (.inl (R.toList, ())) ∧ PermIn a b d R ∧ SortedIn ltInt a b R := by
  intro k
  induction k using Nat.strongRecOn with
  | _ k ih =>
  intro d a b l wb wp n hk hm hab hb hs hl1 hl2 B hn
  obtain ⟨n, rfl⟩ : ∃ k, n = k + 1 := ⟨n - 1, by omega⟩
  have hself' : PdqCalls self (b - a) := fun d a' b' l h1 h2 h3 h4 h5 h6 h7 => hself d a' b' l h1 h2 h3 h4 h5 h6 (by omega)
  obtain ⟨o, e, ho⟩ := pdq_round hself' hab hb hs ⟨hl1, hl2⟩ wb wp B
  rw [iterO, e]
  match o, ho with
  | .inl (xs, x, y, l', wb', wp', _), ho =>
    obtain ⟨e', i, j, rfl, rfl, rfl, g1, g2, g3, g4, g5, g6, g7, hfin⟩ := ho
    obtain ⟨R, e2, r1, r2⟩ := ih (j - i) (by omega) e' i j l' wb' wp' n rfl (by omega) g3 g4 (by omega) g1 g2 g7 (by omega)
    exact ⟨R, e2, hfin R r1 r2⟩
  | .inr (.inl (xs, _)), ho =>
    obtain ⟨R, rfl, r1, r2⟩ := ho
    exact ⟨R, rfl, r1, r2⟩

theorem pdq_calls : ∀ k : Nat, PdqCalls (pdqI_f (k + 1)) (2 ^ k) := by
  intro k
  have hmany : 4294967296 < many := by simp only [many]; omega
  induction k with
  | zero =>
    intro d a b l h1 h2 h3 h4 h5 h6 h7
    have : PdqCalls (pdqI_f 0) 0 := fun _ _ _ _ _ _ _ _ _ _ h => by omega
    obtain ⟨R, e, r1, r2⟩ := pdq_loop this (b - a) d a b l true true many rfl (by omega) h1 h2 h3 h4 h5 h6 (by omega)
    refine ⟨R, ?_, r1, r2⟩
    rw [pdqI_f, pdqI_d]
    simp only [iterL_eq, e]
  | succ k ih =>
    intro d a b l h1 h2 h3 h4 h5 h6 h7
    have hp : 2 ^ (k + 1) = 2 * 2 ^ k := by rw [Nat.pow_succ]; omega
    obtain ⟨R, e, r1, r2⟩ := pdq_loop ih (b - a) d a b l true true many rfl (by omega) h1 h2 h3 h4 h5 h6 (by omega)
    refine ⟨R, ?_, r1, r2⟩
    rw [pdqI_f, pdqI_d]
    simp only [iterL_eq, e]

/-- the sorted list -/
def sorted (xs : List Int) : List Int := xs.mergeSort (fun x y => decide (x ≤ y))

theorem sorted_eq {d d' : Array Int} (h1 : PermIn 0 d.size d d') (h2 : SortedIn ltInt 0 d.size d') : d'.toList = sorted d.toList := by
  have h := sorted_unique_holds (lt := ltInt) swo_ltInt (fun x y h1 h2 => by simp [ltInt] at h1 h2; omega) d d' h1 h2
  rw [h, sorted]
  congr
  funext x y
  by_cases h : x ≤ y
  · simp [ltInt, h, Int.not_lt.2 h]
  · simp [ltInt, h, Int.not_le.1 h]

theorem sortI_val (xs : List Int) (h : xs.length < 4294967296) : sortI (xs, ()) = some (sorted xs, ()) := by
  obtain ⟨d, rfl⟩ : ∃ d : Array Int, xs = d.toList := ⟨xs.toArray, rfl⟩
  rw [Array.length_toList] at h
  rw [sortI_eq, sortI_d]
  rw [dlen_at, u64_in (by omega)]
  obtain ⟨v, e, hv, _⟩ := bitsLen_val d.size h
  simp only [e]
  obtain ⟨R, e2, r1, r2⟩ := pdq_calls 99 d 0 d.size (v : Int) (by omega) (by omega) h (by omega) (by omega) (.inl rfl) (by
    have : 2 ^ 99 = 633825300114114700748351602688 := by decide
    omega)
  have e3 : pdqI (d.toList, (0 : Int), (d.size : Int), (v : Int), ()) = some (R.toList, ()) := by rw [pdqI_eq]; exact e2
  simp only [e3, sorted_eq r1 r2]
end Go.Pev.Pl.SI
end
section
/- Members of a tree: the program's and the document's. -/
namespace Go.Pev.Pl
open Tok

theorem getD_drop_eq {a o : List Int} {m k : Nat} (h : a.drop m = o.drop m) (hk : m ≤ k) : a.getD k 0 = o.getD k 0 := by
  have := congrArg (fun l => l.getD (k - m) 0) h
  simp only [List.getD_eq_getElem?_getD, List.getElem?_drop] at this
  rw [Nat.add_sub_cancel' hk] at this
  simpa [List.getD_eq_getElem?_getD] using this
theorem take_succ_getD {xs : List Int} {i : Nat} (h : i < xs.length) : xs.take (i + 1) = xs.take i ++ [xs.getD i 0] := by
  rw [List.take_succ_eq_append_getElem h]; simp [h]

/-- vertices among tokens -/
def lows (n : Int) (xs : List Int) : List Int := xs.filter fun t => !decide (n ≤ t)

theorem del_loop (o : List Int) (n : Int) (rings : List (List Int)) (hs : o.length < 4294967296) : ∀ (k j w : Nat) (a : List Int) (cnt : Nat), j + k = o.length → a.length = o.length → w = (lows n (o.take j)).length → a.take w = lows n (o.take j) → w < j → a.drop j = o.drop j → k < cnt →
    ∃ a' : List Int, iterO delFuncI_mem_s0 cnt (a, n, rings, (w : Int), (j : Int), ()) = some (.inl (a', n, rings, (((lows n o).length : Nat) : Int), ())) ∧ a'.length = o.length ∧ a'.take (lows n o).length = lows n o := by
  intro k
  induction k with
  | zero =>
    intro j w a cnt hk hl hw hq hwj hd hn
    obtain ⟨cnt, rfl⟩ : ∃ k, cnt = k + 1 := ⟨cnt - 1, by omega⟩
    have e : j = o.length := by omega
    subst e
    rw [List.take_length] at hw hq
    rw [iterO, delFuncI_mem_s0, dlen_l, ilt_nat, decide_eq_false (by omega)]
    exact ⟨a, by rw [hw], hl, by rw [← hw]; exact hq⟩
  | succ k ih =>
    intro j w a cnt hk hl hw hq hwj hd hn
    obtain ⟨cnt, rfl⟩ : ∃ k, cnt = k + 1 := ⟨cnt - 1, by omega⟩
    have g1 : a.getD j 0 = o.getD j 0 := getD_drop_eq hd (Nat.le_refl _)
    have hdd : a.drop (j + 1) = o.drop (j + 1) := by
      have := congrArg (List.drop 1) hd
      simpa only [List.drop_drop] using this
    have hst : lows n (o.take (j + 1)) = lows n (o.take j) ++ if n ≤ o.getD j 0 then [] else [o.getD j 0] := by
      rw [take_succ_getD (by omega), lows, List.filter_append]
      generalize o.getD j 0 = v
      by_cases h : n ≤ v <;> simp [lows, h]
    rw [iterO, delFuncI_mem_s0, dlen_l, ilt_nat, decide_eq_true (by omega)]
    simp (disch := omega) only [idx_l (0 : Int), dget_l, dset_l, g1, ile_eq, wrap_add1]
    by_cases h : n ≤ o.getD j 0
    · rw [decide_eq_true h]
      rw [if_pos h, List.append_nil] at hst
      exact ih (j + 1) w a cnt (by omega) hl (by rw [hst]; exact hw) (by rw [hst]; exact hq) (by omega) hdd (by omega)
    · rw [decide_eq_false h]
      rw [if_neg h] at hst
      refine ih (j + 1) (w + 1) (a.set w (o.getD j 0)) cnt (by omega) (by simp [hl]) (by rw [hst]; simp [hw]) ?_ (by omega) ?_ (by omega)
      · rw [hst, ← hq, List.take_succ_eq_append_getElem (by simp; omega)]
        simp [List.take_set_of_le]
      · rw [List.drop_set_of_lt (by omega)]
        exact hdd

theorem lows_none {n : Int} {o : List Int} (h : ∀ j, j < o.length → decide (n ≤ o.getD j 0) = false) : lows n o = o := by
  rw [lows, List.filter_eq_self]
  intro x hx
  obtain ⟨j, hj, e⟩ := List.getElem_of_mem hx
  have := h j hj
  simp only [List.getD_eq_getElem?_getD, List.getElem?_eq_getElem hj, Option.getD_some, e] at this
  simp only [this, Bool.not_false]

theorem del_val (o : List Int) (n : Int) (rings : List (List Int)) (hs : o.length < 4294967296) :
    ∃ a : List Int, delFuncI_mem (o, n, rings, ()) = some (a, n, rings, (((lows n o).length : Nat) : Int), ()) ∧ a.take (lows n o).length = lows n o := by
  have hm : 4294967296 < many := by simp only [many]; omega
  rw [delFuncI_mem_eq, delFuncI_mem_d, idxFuncI_mem_eq, idxFuncI_mem_d]
  simp only [dlen_l]
  rcases scanL (step := idxFuncI_mem_s0) (fun i => (o, n, rings, (o.length : Int), (i : Int), ())) o.length (fun i => decide (n ≤ o.getD i 0)) (fun i => .inl (o, n, rings, (i : Int), ())) (.inr (.inl (o, n, rings, ()))) (by omega)
      (fun i hi => by
        rw [idxFuncI_mem_s0]
        simp (disch := omega) only [ilt_nat, hi, decide_true, idx_l (0 : Int), dget_l, ile_eq, wrap_add1]
        cases decide (n ≤ o.getD i 0) <;> rfl) (by rw [idxFuncI_mem_s0]; simp only [ilt_nat, Nat.lt_irrefl, decide_false]) with ⟨k, hk, hP, hF, e⟩ | ⟨hP, e⟩
  · have e' : iterL idxFuncI_mem_s0 many (o, n, rings, (o.length : Int), (0 : Int), ()) = _ := e
    have h0 : lows n (o.take k) = o.take k := lows_none fun j hj => by
      rw [List.length_take] at hj
      have := hF j (by omega)
      rw [show (o.take k).getD j 0 = o.getD j 0 by simp [List.getD_eq_getElem?_getD, List.getElem?_take_of_lt (show j < k by omega)]]
      exact this
    have h1 : lows n (o.take (k + 1)) = o.take k := by
      rw [take_succ_getD hk, lows, List.filter_append]
      have : (List.filter (fun t => !decide (n ≤ t)) [o.getD k 0]) = [] := by
        generalize o.getD k 0 = v at *
        simp at hP
        simp [hP]
      rw [this, List.append_nil]
      exact h0
    obtain ⟨a', e2, e3, e4⟩ := del_loop o n rings hs (o.length - (k + 1)) (k + 1) k o many (by omega) rfl (by rw [h1, List.length_take]; omega) (by rw [h1]) (by omega) rfl (by omega)
    have hle : (lows n o).length ≤ o.length := List.length_filter_le _ _
    have hcl : (dclear (lows n o).length (a'.length - (lows n o).length) 0 a').length = a'.length := by
      simp [dclear]; omega
    have s0 : subl (dclear (lows n o).length (a'.length - (lows n o).length) 0 a') (0 : Int) (((lows n o).length : Nat) : Int) = some _ := subl_l (l := 0) (by omega) (by omega)
    simp only [e', ieq_eq]
    rw [show ((k : Int) == -1) = false from beq_false_of_ne (by omega), wrap_add1 (by omega)]
    simp only [iterL_eq, e2]
    rw [subl_l (by omega) (by omega)]
    simp only [List.take_length, List.length_drop, dnat_l, s0]
    refine ⟨dclear (lows n o).length (a'.length - (lows n o).length) 0 a', ?_, ?_⟩
    · simp only [List.length_take, Nat.sub_zero]
      rw [Nat.min_eq_left (by omega)]
    · rw [dclear, List.take_append_of_le_length (by simp; omega), List.take_take, Nat.min_self]
      exact e4
  · have e' : iterL idxFuncI_mem_s0 many (o, n, rings, (o.length : Int), (0 : Int), ()) = _ := e
    have h0 := lows_none hP
    simp only [e', ieq_eq]
    exact ⟨o, by rw [h0]; rfl, by rw [h0, List.take_length]⟩

/-- may be asked, and is there -/
noncomputable def askE (n : Int) (rings : List (List Int)) (ok : Bool) : Int := if RF n rings then if ok then 0 else 10 else 1

theorem cont_there (n : Int) (rings : List (List Int)) (xs : List Int) (hs : xs.length < 9223372036854775808) : contFuncI_there (xs, n, rings, ()) = some (n, rings, xs.any (fun x => decide (x < 0) || decide (n ≤ x)), ()) := by
  rw [contFuncI_there_eq, contFuncI_there_d, idxFuncI_there_eq, idxFuncI_there_d]
  have e := findL (step := idxFuncI_there_s0) (fun i => (n, rings, xs, dlen xs, (i : Int), ())) xs (fun x => decide (x < 0) || decide (n ≤ x)) (fun i => .inl (n, rings, (i : Int), ())) (.inr (.inl (n, rings, ()))) hs
    (fun i x hi hx => by
      rw [idxFuncI_there_s0, dlen_l, ilt_nat, decide_eq_true hi]
      simp only [idx_some hx, ilt_eq, ile_eq]
      rw [wrap_add1 (by omega)]
      by_cases h : x < 0
      · simp [h]
      · by_cases h2 : n ≤ x
        · simp [h, h2]
        · simp [h, h2])
    (by rw [idxFuncI_there_s0, dlen_l, ilt_nat, decide_eq_false (by omega)])
  have e' : iterL idxFuncI_there_s0 many (n, rings, xs, dlen xs, (0 : Int), ()) = _ := e
  rw [e']
  generalize (xs.any fun x => decide (x < 0) || decide (n ≤ x)) = b
  cases b <;> simp [ile_eq]

theorem In_not {n v : Int} (hS : Sz n) : (decide (v < 0) || decide (n ≤ v)) = !decide (In n v) := by
  by_cases h : In n v
  · obtain ⟨_, _, h3, h4⟩ := h
    simp [In, hS.1, hS.2, h3, h4]
  · have : v < 0 ∨ n ≤ v := by
      refine Classical.byContradiction fun hc => h ⟨hS.1, hS.2, by omega, by omega⟩
    rcases this with g | g <;> simp [h, g]

theorem fthere_val (n : Int) (rings : List (List Int)) (xs : List Int) (hD : Dom rings) (hs : xs.length < 9223372036854775808) : fthere ((n, (rings, ())), xs, ()) = some (askE n rings (xs.all fun v => decide (In n v)), ()) := by
  rw [fthere_eq, fthere_d]
  simp only [tright_val n rings hD.1 hD.2, cont_there n rings xs hs, askE]
  by_cases h : RF n rings
  · have hb : (xs.any fun x => decide (x < 0) || decide (n ≤ x)) = !(xs.all fun v => decide (In n v)) := by
      rw [List.not_all_eq_any_not]
      congr 1
      funext x
      exact In_not h.1
    simp only [h, decide_true, Bool.not_true, hb, if_true]
    cases xs.all fun v => decide (In n v) <;> rfl
  · simp [h]

theorem there19_val (n : Int) (rings : List (List Int)) (l : List (Int × Int × Unit)) (hD : Dom rings) (hs : l.length < 9223372036854775808) : there19 ((n, (rings, ())), l, ()) = some (askE n rings (l.all fun e => decide (In n e.1) && decide (In n e.2.1)), ()) := by
  rw [there19_eq, there19_d]
  simp only [right18_val n rings hD.1 hD.2, askE]
  by_cases h : RF n rings
  · simp only [h, decide_true, Bool.not_true, if_true]
    have e := findL (step := there19_s0) (fun i => (l, n, rings, (i : Int), ())) l (fun e => !(decide (In n e.1) && decide (In n e.2.1))) (fun _ => .inl ((10 : Int), ())) (.inr (.inl ())) hs
      (fun i x hi hx => by
        rw [there19_s0, dlen_l, ilt_nat, decide_eq_true hi]
        simp only [idx_some hx, ilt_eq, ile_eq]
        rw [wrap_add1 (by omega)]
        have q1 := In_not (v := x.1) h.1
        have q2 := In_not (v := x.2.1) h.1
        by_cases c1 : x.1 < 0
        · rw [decide_eq_true c1, Bool.true_or] at q1
          have : decide (In n x.1) = false := by simpa using q1.symm
          simp [c1, this]
        · by_cases c2 : n ≤ x.1
          · rw [decide_eq_true c2, Bool.or_true] at q1
            have : decide (In n x.1) = false := by simpa using q1.symm
            simp [c1, c2, this]
          · rw [decide_eq_false c1, decide_eq_false c2] at q1
            have g1 : decide (In n x.1) = true := by simpa using q1.symm
            by_cases c3 : x.2.1 < 0
            · rw [decide_eq_true c3, Bool.true_or] at q2
              have : decide (In n x.2.1) = false := by simpa using q2.symm
              simp [c1, c2, c3, this]
            · by_cases c4 : n ≤ x.2.1
              · rw [decide_eq_true c4, Bool.or_true] at q2
                have : decide (In n x.2.1) = false := by simpa using q2.symm
                simp [c1, c2, c3, c4, this]
              · rw [decide_eq_false c3, decide_eq_false c4] at q2
                have g2 : decide (In n x.2.1) = true := by simpa using q2.symm
                simp [c1, c2, c3, c4, g1, g2])
      (by rw [there19_s0, dlen_l, ilt_nat, decide_eq_false (by omega)])
    have e' : iterL there19_s0 many (l, n, rings, (0 : Int), ()) = _ := e
    rw [e', List.any_eq_not_all_not]
    simp only [Bool.not_not]
    cases l.all fun e => decide (In n e.1) && decide (In n e.2.1) <;> rfl
  · simp [h]

/-- a tree's vertices, rising -/
def verts (n : Int) (A : List Int) : List Int := ((List.range n.toNat).map fun (k : Nat) => (k : Int)).filter fun v => decide (v ∈ A)

theorem verts_mem {n : Int} {A : List Int} (v : Int) : v ∈ verts n A ↔ 0 ≤ v ∧ v < n ∧ v ∈ A := by
  rw [verts, List.mem_filter, List.mem_map, decide_eq_true_eq]
  constructor
  · rintro ⟨⟨k, hk, rfl⟩, h⟩
    rw [List.mem_range] at hk
    exact ⟨by omega, by omega, h⟩
  · rintro ⟨h1, h2, h3⟩
    exact ⟨⟨v.toNat, by rw [List.mem_range]; omega, by omega⟩, h3⟩
theorem verts_up (n : Int) (A : List Int) : (verts n A).Pairwise (· < ·) := by
  rw [verts]
  refine List.Pairwise.filter _ ?_
  rw [List.pairwise_map]
  exact List.pairwise_lt_range.imp fun h => by omega

theorem sorted_lows {n : Int} {A : List Int} (h : RG n A) : SI.sorted (lows n A) = verts n A := by
  have hp : (SI.sorted (lows n A)).Perm (lows n A) := List.mergeSort_perm _ _
  have hl : (lows n A).Nodup := h.1.2.2.filter _
  have hv : (verts n A).Nodup := (verts_up n A).imp fun h => by omega
  have hpv : (lows n A).Perm (verts n A) := (List.perm_ext_iff_of_nodup hl hv).2 fun v => by
    rw [verts_mem, lows, List.mem_filter]
    simp only [Bool.not_eq_true', decide_eq_false_iff_not]
    constructor
    · rintro ⟨h1, h2⟩
      have := (h.1.2.1 v h1).1
      exact ⟨this, by omega, h1⟩
    · rintro ⟨h1, h2, h3⟩
      exact ⟨h3, by omega⟩
  have hs : (SI.sorted (lows n A)).Pairwise (· ≤ ·) := by
    have := List.pairwise_mergeSort (le := fun x y : Int => decide (x ≤ y)) (fun a b c h1 h2 => by simp at *; omega) (fun a b => by simp; omega) (lows n A)
    exact this.imp fun h => by simpa using h
  exact List.Perm.eq_of_pairwise (le := fun a b : Int => a ≤ b) (fun a b _ _ h1 h2 => by omega) hs ((verts_up n A).imp fun h => by omega) (hp.trans hpv)

theorem members19_val {n : Int} {rings : List (List Int)} {i : Nat} {A : List Int} {v : Int} (h : FR n rings) (iv : In n v) (hi : rings[i]? = some A) (hv : v ∈ A) : members19 ((n, (rings, ())), v, ()) = some (verts n A, 0, ()) := by
  have hD := h.dom
  have hRF := RF_iff.2 h
  have gA := h.rg A (List.mem_of_getElem? hi)
  have hl := gA.1.1
  rw [members19_eq, members19_d]
  have ht : there19 ((n, (rings, ())), [(v, (v, ()))], ()) = some (0, ()) := by
    rw [there19_val n rings _ hD (by simp), askE]
    simp [hRF, iv]
  simp only [ht, ieq_self, Bool.not_true, of18_val n rings v hD, hRF, iv, and_self, if_true, h.plc_eq hi iv.2.2.2 hv, idx_some hi]
  obtain ⟨s1, s2⟩ := h.sz
  obtain ⟨N, rfl⟩ := Int.eq_ofNat_of_zero_le (show 0 ≤ n by omega)
  have key : ∀ (m k cnt : Nat), k + m = N → m < cnt → iterO members19_s0 cnt ((N : Int), rings, A, ((List.range k).map fun (k : Nat) => (k : Int)).filter (fun v => decide (v ∈ A)), (k : Int), ()) = some (.inl (verts (N : Int) A, ())) := by
    intro m
    induction m with
    | zero =>
      intro k cnt hk hc
      obtain ⟨cnt, rfl⟩ : ∃ c, cnt = c + 1 := ⟨cnt - 1, by omega⟩
      have : k = N := by omega
      subst this
      rw [iterO, members19_s0, ilt_nat, decide_eq_false (by omega)]
      rfl
    | succ m ih =>
      intro k cnt hk hc
      obtain ⟨cnt, rfl⟩ : ∃ c, cnt = c + 1 := ⟨cnt - 1, by omega⟩
      have hih := ih (k + 1) cnt (by omega) (by omega)
      rw [List.range_succ, List.map_append, List.filter_append] at hih
      have hfl : (((List.range k).map fun (k : Nat) => (k : Int)).filter (fun v => decide (v ∈ A))).length ≤ k := by
        have := List.length_filter_le (fun v => decide (v ∈ A)) ((List.range k).map fun (k : Nat) => (k : Int))
        simpa using this
      rw [iterO, members19_s0, ilt_nat, decide_eq_true (by omega)]
      simp only [place13_val A _ (show A.length < 9223372036854775808 by omega), ile_eq]
      rw [wrap_add1 (by omega)]
      by_cases hm : (k : Int) ∈ A
      · obtain ⟨q, e, _⟩ := pos_in hm
        rw [e, decide_eq_true (by omega), fits_l (by simp only [dlen_l, List.length_cons, List.length_nil]; omega)]
        have : (List.map (fun (k : Nat) => (k : Int)) [k]).filter (fun v => decide (v ∈ A)) = [(k : Int)] := by simp [hm]
        rw [this] at hih
        exact hih
      · rw [pos_out hm, decide_eq_false (by omega)]
        have : (List.map (fun (k : Nat) => (k : Int)) [k]).filter (fun v => decide (v ∈ A)) = [] := by simp [hm]
        rw [this, List.append_nil] at hih
        exact hih
  have hmany : 4294967296 < many := by simp only [many]; omega
  have e := key N 0 many (by omega) (by omega)
  have e' : iterO members19_s0 many ((N : Int), rings, A, [], (0 : Int), ()) = _ := e
  simp only [iterL_eq, e']

theorem fmembers_val {n : Int} {rings : List (List Int)} {i : Nat} {A : List Int} {v : Int} (h : FR n rings) (iv : In n v) (hi : rings[i]? = some A) (hv : v ∈ A) : fmembers ((n, (rings, ())), v, ()) = some (verts n A, 0, ()) := by
  have hD := h.dom
  have hRF := RF_iff.2 h
  have gA := h.rg A (List.mem_of_getElem? hi)
  have hl := gA.1.1
  rw [fmembers_eq, fmembers_d]
  have ht : fthere ((n, (rings, ())), [v], ()) = some (0, ()) := by
    rw [fthere_val n rings _ hD (by simp), askE]
    simp [hRF, iv]
  obtain ⟨a, e1, e2⟩ := del_val A n rings (by omega)
  simp only [ht, ieq_self, Bool.not_true, tof_val n rings v hD, hRF, iv, and_self, if_true, h.plc_eq hi iv.2.2.2 hv, idx_some hi, cloneF_val (show A.length ≤ 4294967296 by omega), e1, dtake, dnat_l, e2]
  have hle : (lows n A).length ≤ A.length := List.length_filter_le _ _
  rw [SI.sortI_val _ (by omega), sorted_lows gA]

theorem lows_len {n : Int} {A : List Int} (h : RG n A) : A.length + 2 = 3 * (verts n A).length := by
  have hp : (SI.sorted (lows n A)).Perm (lows n A) := List.mergeSort_perm _ _
  rw [← sorted_lows h, hp.length_eq]
  obtain ⟨L, q1, q2, q3⟩ := h.2.2.2
  have hv : lows n A = vers L := by
    rw [q1]
    clear q1 q3
    induction L with
    | nil => rfl
    | cons t L ih =>
      have h1 := ih fun t ht => q2 t (List.mem_cons_of_mem _ ht)
      have h2 := q2 t (by simp)
      rw [lows] at h1 ⊢
      cases t with
      | ver v =>
        have : ¬ n ≤ v := by have := h2.2.2.2; omega
        rw [List.map_cons, List.filter_cons_of_pos (by simp only [encT]; simp [this]), h1, vers]
        rfl
      | arc u v =>
        have := (enc_arc h2.1 h2.2.1).1
        rw [List.map_cons, List.filter_cons_of_neg (by simp only [encT]; simp [this]), h1, vers]
  rw [hv, q1, List.length_map]
  exact q3.len

theorem verts_head {n : Int} {A : List Int} (h : RG n A) : ∃ r, verts n A = hd A :: r := by
  have hh := RG_head h
  have hm : hd A ∈ verts n A := (verts_mem _).2 ⟨hh.2.2.1, hh.2.2.2, hd_mem h.2.1⟩
  have hup := verts_up n A
  have hmin := (minL_spec h.2.1).2
  rw [h.2.2.1] at hmin
  cases hv : verts n A with
  | nil => rw [hv] at hm; cases hm
  | cons x r =>
    rw [hv] at hm hup
    have hx : x ∈ A := ((verts_mem x).1 (by rw [hv]; simp)).2.2
    have h1 := hmin x hx
    rw [List.pairwise_cons] at hup
    rcases List.mem_cons.1 hm with e | e
    · exact ⟨r, by rw [e]⟩
    · have h2 := hup.1 _ e
      have h3 : hd A = A.headD 0 := rfl
      omega
end Go.Pev.Pl
end
section
/- The law ForestAsks of the models. -/
namespace Go.Pev.Pl
open Go.RowKit Tok

theorem alive19_true : alive19 () = some (true, ()) := by
  rw [show alive19 () = @alive19 idI () from congrArg (fun i => @alive19 i ()) lockI_eq]
  kernel_rfl

theorem great_walk : ∀ (xs : List (List Int)) (acc : Int), -9223372036854775808 ≤ acc ∧ acc ≤ 9223372036854775807 → ∃ r, walk (ρ := (Int × Int × Unit) ⊕ Unit) (fun (x : List Int) (acc : Int) => if acc ≤ 80 then .inl (IntKind.wrap .i64 (acc + (x.length : Int))) else .inr (.inl (80, acc, ()))) (fun acc => .inl (80, acc, ())) xs acc = .inl (80, r, ()) ∧ (80 < acc → r = acc) := by
  intro xs
  induction xs with
  | nil => intro acc _; exact ⟨acc, rfl, fun _ => rfl⟩
  | cons x xs ih =>
    intro acc h0
    rw [walk]
    by_cases h : acc ≤ 80
    · simp only [h, if_true]
      obtain ⟨r, r1, _⟩ := ih (IntKind.wrap .i64 (acc + (x.length : Int))) (wrap_range _)
      exact ⟨r, r1, fun hh => by omega⟩
    · simp only [h, if_false]
      exact ⟨acc, rfl, fun _ => rfl⟩

theorem great18_val (n : Int) (rings : List (List Int)) (h1 : rings.length < 9223372036854775808) :
    ∃ b, great18 ((n, (rings, ())), (80 : Int), ()) = some (b, ()) ∧ (b = false → rings.length ≤ 80) := by
  rw [great18_eq, great18_d]
  have e := walkL (step := great18_s0) (fun i (acc : Int) => ((80 : Int), n, rings, acc, (i : Int), ())) rings (fun (x : List Int) (acc : Int) => if acc ≤ 80 then .inl (IntKind.wrap .i64 (acc + (x.length : Int))) else .inr (.inl (80, acc, ()))) (fun acc => .inl (80, acc, ())) (fun _ acc => True) (by omega)
    (fun i x acc hi hx _ => by
      have hst : great18_s0 ((80 : Int), n, rings, acc, (i : Int), ()) = if acc ≤ 80 then some (.inl ((80 : Int), n, rings, IntKind.wrap .i64 (acc + (x.length : Int)), ((i + 1 : Nat) : Int), ())) else some (.inr (.inl (80, acc, ()))) := by
        rw [great18_s0, dlen_l, ilt_nat, decide_eq_true hi, ile_eq]
        by_cases h : acc ≤ 80
        · rw [decide_eq_true h]
          simp only [idx_some hx, h, if_true, dlen_l]
          rw [wrap_add1 (by omega)]
        · rw [decide_eq_false h]
          simp only [h, if_false]
      rw [hst]
      refine ⟨fun a' h' => ?_, fun r h' => ?_⟩
      · split at h'
        · cases h'
          rename_i h
          simp only [h, if_true]
          exact ⟨by trivial, by trivial⟩
        · cases h'
      · split at h'
        · cases h'
        · cases h'
          rename_i h
          simp only [h, if_false])
    (fun acc _ => by rw [great18_s0, dlen_l, ilt_nat, decide_eq_false (by omega)]) (rings.length : Int) trivial
  have e' : iterL great18_s0 many ((80 : Int), n, rings, dlen rings, (0 : Int), ()) = _ := e
  obtain ⟨r, r1, r2⟩ := great_walk rings (rings.length : Int) (by omega)
  rw [r1] at e'
  simp only [e', ilt_eq]
  refine ⟨_, rfl, fun hb => ?_⟩
  rw [decide_eq_false_iff_not] at hb
  refine Classical.byContradiction fun hc => ?_
  have := r2 (by omega)
  omega

theorem forestAsks_true (f : Int × List (List Int) × Unit) (u v : Int) (h0 : wfD (.prod (.int .i64) (.prod (.slice (.slice (.int .i64))) .unit)) f) (h1 : wfD (.int .i64) u) (h2 : wfD (.int .i64) v) : forestAsks (f, u, v, ()) = some (true, ()) := by
  obtain ⟨n, rings, _⟩ := f
  obtain ⟨w1, w2⟩ := wfD_rings h0
  rw [forestAsks_eq, forestAsks_d]
  obtain ⟨b, e, hb⟩ := great18_val n rings w1
  simp only [alive19_true, Bool.not_true, e]
  cases b
  · have b1 := hb rfl
    have hD : Dom rings := ⟨by omega, w2⟩
    have hlen : ∀ xs : List Int, (∀ x ∈ xs, x ∈ xs) := fun _ _ h => h
    -- are two of one tree?
    have hc : ∃ q s, fconn ((n, (rings, ())), u, v, ()) = some (q, s, ()) ∧ conn19 ((n, (rings, ())), u, v, ()) = some (q, s, ()) := by
      rw [fconn_eq, fconn_d, conn19_eq, conn19_d]
      simp only [fthere_val n rings [u, v] hD (by simp), there19_val n rings [(u, (v, ()))] hD (by simp), List.all_cons, List.all_nil, Bool.and_true, tof_val n rings _ hD, of18_val n rings _ hD]
      generalize askE n rings (decide (In n u) && decide (In n v)) = a
      cases h : (!(ieq a 0)) with
      | true => exact ⟨_, _, rfl, rfl⟩
      | false => exact ⟨_, _, rfl, rfl⟩
    obtain ⟨q, s, hc1, hc2⟩ := hc
    simp only [hc1, hc2, BEq.rfl, ieq_self]
    by_cases h : RF n rings ∧ In n u
    · obtain ⟨hR, iu⟩ := h
      have hF := RF_iff.1 hR
      obtain ⟨i, A, pu, hi, hu, _⟩ := plc_in (hF.cov u iu)
      have gA := hF.rg A (List.mem_of_getElem? hi)
      have hl := gA.1.1
      have ht : fthere ((n, (rings, ())), [u], ()) = some (0, ()) := by
        rw [fthere_val n rings _ hD (by simp), askE]
        simp [hR, iu]
      obtain ⟨r, hr⟩ := verts_head gA
      have hll := lows_len gA
      have m1 : fleast ((n, (rings, ())), u, ()) = some (hd A, 0, ()) := by
        rw [fleast_eq, fleast_d]
        have i0 : idx A (0 : Int) = some (hd A) := by
          cases A with
          | nil => exact absurd rfl gA.2.1
          | cons x A => rw [idx_zero]; rfl
        simp only [ht, ieq_self, Bool.not_true, tof_val n rings u hD, hR, iu, and_self, if_true, pu, idx_some hi, i0]
      have m2 : least19 ((n, (rings, ())), u, ()) = some (hd A, 0, ()) := by
        rw [least19_eq, least19_d, members19_val hF iu hi hu]
        have i0 : idx (verts n A) (0 : Int) = some (hd A) := by rw [hr, idx_zero]; rfl
        have d0 : dget (verts n A) 0 (0 : Int) = hd A := by rw [hr]; rfl
        simp only [ieq_self, Bool.not_true, i0, d0]
      have m3 : fsize ((n, (rings, ())), u, ()) = some (((verts n A).length : Int), 0, ()) := by
        rw [fsize_eq, fsize_d]
        simp only [ht, ieq_self, Bool.not_true, tof_val n rings u hD, hR, iu, and_self, if_true, pu, idx_some hi, dlen_l, quo_eq, quoR]
        rw [wrap_in (n := (A.length : Int) + 2) (by omega), if_neg (by omega)]
        have : (((A.length : Int) + 2).tdiv 3) = ((verts n A).length : Int) := by
          rw [Int.tdiv_eq_ediv_of_nonneg (by omega)]
          omega
        rw [this, wrap_in (by omega)]
      have m4 : size19 ((n, (rings, ())), u, ()) = some (((verts n A).length : Int), 0, ()) := by
        rw [size19_eq, size19_d, members19_val hF iu hi hu]
        rfl
      simp only [m1, m2, m3, m4, fmembers_val hF iu hi hu, members19_val hF iu hi hu, ieq_self]
      rw [ints01_val _ _ (by omega)]
      simp
    · have ha : ∃ a, a ≠ 0 ∧ askE n rings (decide (In n u)) = a := by
        refine ⟨_, ?_, rfl⟩
        rw [askE]
        by_cases hR : RF n rings
        · have iu : ¬ In n u := fun iu => h ⟨hR, iu⟩
          simp [hR, iu]
        · simp [hR]
      obtain ⟨a, ha0, ha⟩ := ha
      have hne : ieq a 0 = false := by rw [ieq_dec, decide_eq_false ha0]
      have ht : fthere ((n, (rings, ())), [u], ()) = some (a, ()) := by
        rw [fthere_val n rings _ hD (by simp)]
        simp only [List.all_cons, List.all_nil, Bool.and_true, ha]
      have ht2 : there19 ((n, (rings, ())), [(u, (u, ()))], ()) = some (a, ()) := by
        rw [there19_val n rings _ hD (by simp)]
        simp only [List.all_cons, List.all_nil, Bool.and_true, Bool.and_self, ha]
      have m0 : members19 ((n, (rings, ())), u, ()) = some ([], a, ()) := by
        rw [members19_eq, members19_d]
        simp only [ht2, hne, Bool.not_false]
      have m1 : fleast ((n, (rings, ())), u, ()) = some (0, a, ()) := by
        rw [fleast_eq, fleast_d]
        simp only [ht, hne, Bool.not_false]
      have m2 : least19 ((n, (rings, ())), u, ()) = some (0, a, ()) := by
        rw [least19_eq, least19_d]
        simp only [m0, hne, Bool.not_false]
      have m3 : fsize ((n, (rings, ())), u, ()) = some (0, a, ()) := by
        rw [fsize_eq, fsize_d]
        simp only [ht, hne, Bool.not_false]
      have m4 : size19 ((n, (rings, ())), u, ()) = some (0, a, ()) := by
        rw [size19_eq, size19_d]
        simp only [m0]
        rfl
      have m5 : fmembers ((n, (rings, ())), u, ()) = some ([], a, ()) := by
        rw [fmembers_eq, fmembers_d]
        simp only [ht, hne, Bool.not_false]
      simp only [m0, m1, m2, m3, m4, m5, ieq_self]
      rw [ints01_val _ _ (by simp)]
      simp
  · rfl
end Go.Pev.Pl
end
section
/- The models are what the program computes. Printed by a program. -/
namespace Go.Pev
open Go.Proofs
set_option maxRecDepth 100000
noncomputable section
-- archipelago/archipelagoref18.in
abbrev in18_h : Hints := {  }
theorem in18_okd : ∀ v, in18_d v = pevCall Tryz.prog Env.none in18_h Tryz.f47 in18_i in18_o in18_r v := by
  rintro ⟨a0, a1, ⟨⟩⟩
  kernel_rfl
theorem in18_q : loopList (bodyOf Tryz.f47) 0 = [] := by kernel_rfl
theorem in18_b : Tryz.f47.body.isSome = true := by kernel_rfl
theorem in18_n : (Tryz.f47.name == "runtime.NumGoroutine") = false := by kernel_rfl
theorem in18_ok (v : denL (leaves in18_i)) : in18 v = pevCall Tryz.prog Env.none in18_h Tryz.f47 in18_i in18_o in18_r v := (in18_eq v).trans (in18_okd v)
theorem in18_spec : SpecOK Tryz.prog 47 (mkCall 2 in18_i in18_o in18_r in18) := call_spec Env.none_ok Tryz.func47 in18_b in18_n rfl in18_ok (LoopsOK_of in18_q trivial)
def E_in18 : Env := Env.none.ext 47 true true (mkCall 2 in18_i in18_o in18_r in18)
theorem E_in18_ok : EnvOK Tryz.prog E_in18 := Env.ext_ok Env.none_ok in18_spec (fun _ => mkCall_local rfl rfl) (fun _ => mkCall_in rfl rfl)

-- archipelago/archipelagoref18.Token
abbrev token18_h : Hints := { fp := fun n => match n with | 5 => [[], [], [], [], [], [], [], [], [], [], [], []] | _ => [] }
theorem token18_okd : ∀ v, token18_d v = pevCall Tryz.prog E_in18 token18_h Tryz.f100 token18_i token18_o token18_r v := by
  rintro ⟨a0, a1, ⟨⟩⟩
  kernel_rfl
theorem token18_q : loopList (bodyOf Tryz.f100) 0 = [] := by kernel_rfl
theorem token18_b : Tryz.f100.body.isSome = true := by kernel_rfl
theorem token18_n : (Tryz.f100.name == "runtime.NumGoroutine") = false := by kernel_rfl
theorem token18_ok (v : denL (leaves token18_i)) : token18 v = pevCall Tryz.prog E_in18 token18_h Tryz.f100 token18_i token18_o token18_r v := (token18_eq v).trans (token18_okd v)
theorem token18_spec : SpecOK Tryz.prog 100 (mkCall 2 token18_i token18_o token18_r token18) := call_spec E_in18_ok Tryz.func100 token18_b token18_n rfl token18_ok (LoopsOK_of token18_q trivial)
def E_token18 : Env := E_in18.ext 100 true true (mkCall 2 token18_i token18_o token18_r token18)
theorem E_token18_ok : EnvOK Tryz.prog E_token18 := Env.ext_ok E_in18_ok token18_spec (fun _ => mkCall_local rfl rfl) (fun _ => mkCall_in rfl rfl)

-- archipelago/archipelagoref18.Arc
abbrev arc18_h : Hints := {  }
theorem arc18_okd : ∀ v, arc18_d v = pevCall Tryz.prog E_token18 arc18_h Tryz.f101 arc18_i arc18_o arc18_r v := by
  rintro ⟨a0, a1, a2, ⟨⟩⟩
  kernel_rfl
theorem arc18_q : loopList (bodyOf Tryz.f101) 0 = [] := by kernel_rfl
theorem arc18_b : Tryz.f101.body.isSome = true := by kernel_rfl
theorem arc18_n : (Tryz.f101.name == "runtime.NumGoroutine") = false := by kernel_rfl
theorem arc18_ok (v : denL (leaves arc18_i)) : arc18 v = pevCall Tryz.prog E_token18 arc18_h Tryz.f101 arc18_i arc18_o arc18_r v := (arc18_eq v).trans (arc18_okd v)
theorem arc18_spec : SpecOK Tryz.prog 101 (mkCall 3 arc18_i arc18_o arc18_r arc18) := call_spec E_token18_ok Tryz.func101 arc18_b arc18_n rfl arc18_ok (LoopsOK_of arc18_q trivial)
def E_arc18 : Env := E_token18.ext 101 true true (mkCall 3 arc18_i arc18_o arc18_r arc18)
theorem E_arc18_ok : EnvOK Tryz.prog E_arc18 := Env.ext_ok E_token18_ok arc18_spec (fun _ => mkCall_local rfl rfl) (fun _ => mkCall_in rfl rfl)

-- archipelago/archipelagoref18.Great
abbrev great18_h : Hints := { loop := fun n => match n with | 0 => loopBy 0 33 great18_i0 great18_o0 great18_s0 | _ => fun _ _ _ => none }
theorem great18_s0_ok : ∀ v, great18_s0 v = roundOf Tryz.prog E_arc18 great18_h 1 0 33 (loopOf Tryz.f7 0) great18_i0 great18_o0 v := by
  rintro ⟨a0, a1, a2, a3, a4, ⟨⟩⟩
  kernel_rfl
theorem great18_q0 : loopList (loopOf Tryz.f7 0) 1 = [] := by kernel_rfl
theorem great18_l0 : CodeOK Tryz.prog 0 (.loop (loopOf Tryz.f7 0)) (great18_h.loop 0) := loop_ok E_arc18_ok (great18_s0_ok) (LoopsOK_of great18_q0 trivial)
theorem great18_okd : ∀ v, great18_d v = pevCall Tryz.prog E_arc18 great18_h Tryz.f7 great18_i great18_o great18_r v := by
  rintro ⟨a0, a1, ⟨⟩⟩
  kernel_rfl
theorem great18_q : loopList (bodyOf Tryz.f7) 0 = [(0, loopOf Tryz.f7 0)] := by kernel_rfl
theorem great18_b : Tryz.f7.body.isSome = true := by kernel_rfl
theorem great18_n : (Tryz.f7.name == "runtime.NumGoroutine") = false := by kernel_rfl
theorem great18_ok (v : denL (leaves great18_i)) : great18 v = pevCall Tryz.prog E_arc18 great18_h Tryz.f7 great18_i great18_o great18_r v := (great18_eq v).trans (great18_okd v)
theorem great18_spec : SpecOK Tryz.prog 7 (mkCall 2 great18_i great18_o great18_r great18) := call_spec E_arc18_ok Tryz.func7 great18_b great18_n rfl great18_ok (LoopsOK_of great18_q ⟨great18_l0, trivial⟩)
def E_great18 : Env := E_arc18.ext 7 true true (mkCall 2 great18_i great18_o great18_r great18)
theorem E_great18_ok : EnvOK Tryz.prog E_great18 := Env.ext_ok E_arc18_ok great18_spec (fun _ => mkCall_local rfl rfl) (fun _ => mkCall_in rfl rfl)

-- archipelago/archipelagoref18.stands
abbrev stands18_h : Hints := {  }
theorem stands18_okd : ∀ v, stands18_d v = pevCall Tryz.prog E_great18 stands18_h Tryz.f102 stands18_i stands18_o stands18_r v := by
  rintro ⟨a0, a1, a2, ⟨⟩⟩
  kernel_rfl
theorem stands18_q : loopList (bodyOf Tryz.f102) 0 = [] := by kernel_rfl
theorem stands18_b : Tryz.f102.body.isSome = true := by kernel_rfl
theorem stands18_n : (Tryz.f102.name == "runtime.NumGoroutine") = false := by kernel_rfl
theorem stands18_ok (v : denL (leaves stands18_i)) : stands18 v = pevCall Tryz.prog E_great18 stands18_h Tryz.f102 stands18_i stands18_o stands18_r v := (stands18_eq v).trans (stands18_okd v)
theorem stands18_spec : SpecOK Tryz.prog 102 (mkCall 3 stands18_i stands18_o stands18_r stands18) := call_spec E_great18_ok Tryz.func102 stands18_b stands18_n rfl stands18_ok (LoopsOK_of stands18_q trivial)
def E_stands18 : Env := E_great18.ext 102 true true (mkCall 3 stands18_i stands18_o stands18_r stands18)
theorem E_stands18_ok : EnvOK Tryz.prog E_stands18 := Env.ext_ok E_great18_ok stands18_spec (fun _ => mkCall_local rfl rfl) (fun _ => mkCall_in rfl rfl)

-- archipelago/archipelagoref18.tree
abbrev tree18_h : Hints := { loop := fun n => match n with | 0 => loopBy 0 129 tree18_i0 tree18_o0 tree18_s0 | 1 => loopBy 0 129 tree18_i1 tree18_o1 tree18_s1 | 2 => loopBy 0 129 tree18_i2 tree18_o2 tree18_s2 | _ => fun _ _ _ => none, fp := fun n => match n with | 7 => [[], [], [0], [0], [], [], [], [], [0], [], [0], [0], [], [], [], [], [0], [], [0], [0], [], [], []] | _ => [] }
theorem tree18_s2_ok : ∀ v, tree18_s2 v = roundOf Tryz.prog E_stands18 tree18_h 3 0 129 (loopOf Tryz.f69 2) tree18_i2 tree18_o2 v := by
  rintro ⟨a0, a1, a2, a3, a4, a5, a6, a7, a8, a9, a10, a11, a12, a13, a14, a15, a16, a17, a18, a19, a20, a21, a22, a23, a24, a25, a26, a27, ⟨⟩⟩
  kernel_rfl
theorem tree18_q2 : loopList (loopOf Tryz.f69 2) 3 = [] := by kernel_rfl
theorem tree18_l2 : CodeOK Tryz.prog 0 (.loop (loopOf Tryz.f69 2)) (tree18_h.loop 2) := loop_ok E_stands18_ok (tree18_s2_ok) (LoopsOK_of tree18_q2 trivial)
theorem tree18_s1_ok : ∀ v, tree18_s1 v = roundOf Tryz.prog E_stands18 tree18_h 2 0 129 (loopOf Tryz.f69 1) tree18_i1 tree18_o1 v := by
  rintro ⟨a0, a1, a2, a3, ⟨⟩⟩
  kernel_rfl
theorem tree18_q1 : loopList (loopOf Tryz.f69 1) 2 = [(2, loopOf Tryz.f69 2)] := by kernel_rfl
theorem tree18_l1 : CodeOK Tryz.prog 0 (.loop (loopOf Tryz.f69 1)) (tree18_h.loop 1) := loop_ok E_stands18_ok (tree18_s1_ok) (LoopsOK_of tree18_q1 ⟨tree18_l2, trivial⟩)
theorem tree18_s0_ok : ∀ v, tree18_s0 v = roundOf Tryz.prog E_stands18 tree18_h 1 0 129 (loopOf Tryz.f69 0) tree18_i0 tree18_o0 v := by
  rintro ⟨a0, a1, ⟨⟩⟩
  kernel_rfl
theorem tree18_q0 : loopList (loopOf Tryz.f69 0) 1 = [(1, loopOf Tryz.f69 1)] := by kernel_rfl
theorem tree18_l0 : CodeOK Tryz.prog 0 (.loop (loopOf Tryz.f69 0)) (tree18_h.loop 0) := loop_ok E_stands18_ok (tree18_s0_ok) (LoopsOK_of tree18_q0 ⟨tree18_l1, trivial⟩)
theorem tree18_okd : ∀ v, tree18_d v = pevCall Tryz.prog E_stands18 tree18_h Tryz.f69 tree18_i tree18_o tree18_r v := by
  rintro ⟨a0, a1, ⟨⟩⟩
  kernel_rfl
theorem tree18_q : loopList (bodyOf Tryz.f69) 0 = [(0, loopOf Tryz.f69 0)] := by kernel_rfl
theorem tree18_b : Tryz.f69.body.isSome = true := by kernel_rfl
theorem tree18_n : (Tryz.f69.name == "runtime.NumGoroutine") = false := by kernel_rfl
theorem tree18_ok (v : denL (leaves tree18_i)) : tree18 v = pevCall Tryz.prog E_stands18 tree18_h Tryz.f69 tree18_i tree18_o tree18_r v := (tree18_eq v).trans (tree18_okd v)
theorem tree18_spec : SpecOK Tryz.prog 69 (mkCall 2 tree18_i tree18_o tree18_r tree18) := call_spec E_stands18_ok Tryz.func69 tree18_b tree18_n rfl tree18_ok (LoopsOK_of tree18_q ⟨tree18_l0, trivial⟩)
def E_tree18 : Env := E_stands18.ext 69 true true (mkCall 2 tree18_i tree18_o tree18_r tree18)
theorem E_tree18_ok : EnvOK Tryz.prog E_tree18 := Env.ext_ok E_stands18_ok tree18_spec (fun _ => mkCall_local rfl rfl) (fun _ => mkCall_in rfl rfl)

-- archipelago/archipelagoref13.Place
abbrev place13_h : Hints := { loop := fun n => match n with | 0 => loopBy 0 19 place13_i0 place13_o0 place13_s0 | _ => fun _ _ _ => none }
theorem place13_s0_ok : ∀ v, place13_s0 v = roundOf Tryz.prog E_tree18 place13_h 1 0 19 (loopOf Tryz.f31 0) place13_i0 place13_o0 v := by
  rintro ⟨a0, a1, a2, ⟨⟩⟩
  kernel_rfl
theorem place13_q0 : loopList (loopOf Tryz.f31 0) 1 = [] := by kernel_rfl
theorem place13_l0 : CodeOK Tryz.prog 0 (.loop (loopOf Tryz.f31 0)) (place13_h.loop 0) := loop_ok E_tree18_ok (place13_s0_ok) (LoopsOK_of place13_q0 trivial)
theorem place13_okd : ∀ v, place13_d v = pevCall Tryz.prog E_tree18 place13_h Tryz.f31 place13_i place13_o place13_r v := by
  rintro ⟨a0, a1, ⟨⟩⟩
  kernel_rfl
theorem place13_q : loopList (bodyOf Tryz.f31) 0 = [(0, loopOf Tryz.f31 0)] := by kernel_rfl
theorem place13_b : Tryz.f31.body.isSome = true := by kernel_rfl
theorem place13_n : (Tryz.f31.name == "runtime.NumGoroutine") = false := by kernel_rfl
theorem place13_ok (v : denL (leaves place13_i)) : place13 v = pevCall Tryz.prog E_tree18 place13_h Tryz.f31 place13_i place13_o place13_r v := (place13_eq v).trans (place13_okd v)
theorem place13_spec : SpecOK Tryz.prog 31 (mkCall 2 place13_i place13_o place13_r place13) := call_spec E_tree18_ok Tryz.func31 place13_b place13_n rfl place13_ok (LoopsOK_of place13_q ⟨place13_l0, trivial⟩)
def E_place13 : Env := E_tree18.ext 31 true true (mkCall 2 place13_i place13_o place13_r place13)
theorem E_place13_ok : EnvOK Tryz.prog E_place13 := Env.ext_ok E_tree18_ok place13_spec (fun _ => mkCall_local rfl rfl) (fun _ => mkCall_in rfl rfl)

-- archipelago/archipelagoref13.Right
abbrev right13_h : Hints := { loop := fun n => match n with | 0 => loopBy 0 36 right13_i0 right13_o0 right13_s0 | _ => fun _ _ _ => none, fp := fun n => match n with | 6 => [[], [], [], [], [], [], [], [], [], [], [], [], [], [], [], [], [], [], [], [], [], [], []] | _ => [] }
theorem right13_s0_ok : ∀ v, right13_s0 v = roundOf Tryz.prog E_place13 right13_h 1 0 36 (loopOf Tryz.f68 0) right13_i0 right13_o0 v := by
  rintro ⟨a0, a1, ⟨⟩⟩
  kernel_rfl
theorem right13_q0 : loopList (loopOf Tryz.f68 0) 1 = [] := by kernel_rfl
theorem right13_l0 : CodeOK Tryz.prog 0 (.loop (loopOf Tryz.f68 0)) (right13_h.loop 0) := loop_ok E_place13_ok (right13_s0_ok) (LoopsOK_of right13_q0 trivial)
theorem right13_okd : ∀ v, right13_d v = pevCall Tryz.prog E_place13 right13_h Tryz.f68 right13_i right13_o right13_r v := by
  rintro ⟨a0, ⟨⟩⟩
  kernel_rfl
theorem right13_q : loopList (bodyOf Tryz.f68) 0 = [(0, loopOf Tryz.f68 0)] := by kernel_rfl
theorem right13_b : Tryz.f68.body.isSome = true := by kernel_rfl
theorem right13_n : (Tryz.f68.name == "runtime.NumGoroutine") = false := by kernel_rfl
theorem right13_ok (v : denL (leaves right13_i)) : right13 v = pevCall Tryz.prog E_place13 right13_h Tryz.f68 right13_i right13_o right13_r v := (right13_eq v).trans (right13_okd v)
theorem right13_spec : SpecOK Tryz.prog 68 (mkCall 1 right13_i right13_o right13_r right13) := call_spec E_place13_ok Tryz.func68 right13_b right13_n rfl right13_ok (LoopsOK_of right13_q ⟨right13_l0, trivial⟩)
def E_right13 : Env := E_place13.ext 68 true true (mkCall 1 right13_i right13_o right13_r right13)
theorem E_right13_ok : EnvOK Tryz.prog E_right13 := Env.ext_ok E_place13_ok right13_spec (fun _ => mkCall_local rfl rfl) (fun _ => mkCall_in rfl rfl)

-- archipelago/archipelagoref13.From
abbrev from13_h : Hints := { fp := fun n => match n with | 4 => [[], [], [], [], [17], [], [], [], [19], [], []] | _ => [] }
theorem from13_okd : ∀ v, from13_d v = pevCall Tryz.prog E_right13 from13_h Tryz.f103 from13_i from13_o from13_r v := by
  rintro ⟨a0, a1, ⟨⟩⟩
  kernel_rfl
theorem from13_q : loopList (bodyOf Tryz.f103) 0 = [] := by kernel_rfl
theorem from13_b : Tryz.f103.body.isSome = true := by kernel_rfl
theorem from13_n : (Tryz.f103.name == "runtime.NumGoroutine") = false := by kernel_rfl
theorem from13_ok (v : denL (leaves from13_i)) : from13 v = pevCall Tryz.prog E_right13 from13_h Tryz.f103 from13_i from13_o from13_r v := (from13_eq v).trans (from13_okd v)
theorem from13_spec : SpecOK Tryz.prog 103 (mkCall 2 from13_i from13_o from13_r from13) := call_spec E_right13_ok Tryz.func103 from13_b from13_n rfl from13_ok (LoopsOK_of from13_q trivial)
def E_from13 : Env := E_right13.ext 103 true true (mkCall 2 from13_i from13_o from13_r from13)
theorem E_from13_ok : EnvOK Tryz.prog E_from13 := Env.ext_ok E_right13_ok from13_spec (fun _ => mkCall_local rfl rfl) (fun _ => mkCall_in rfl rfl)

-- archipelago/archipelagoref13.Plain
abbrev plain13_h : Hints := { loop := fun n => match n with | 0 => loopBy 0 37 plain13_i0 plain13_o0 plain13_s0 | _ => fun _ _ _ => none }
theorem plain13_s0_ok : ∀ v, plain13_s0 v = roundOf Tryz.prog E_from13 plain13_h 1 0 37 (loopOf Tryz.f71 0) plain13_i0 plain13_o0 v := by
  rintro ⟨a0, a1, a2, ⟨⟩⟩
  kernel_rfl
theorem plain13_q0 : loopList (loopOf Tryz.f71 0) 1 = [] := by kernel_rfl
theorem plain13_l0 : CodeOK Tryz.prog 0 (.loop (loopOf Tryz.f71 0)) (plain13_h.loop 0) := loop_ok E_from13_ok (plain13_s0_ok) (LoopsOK_of plain13_q0 trivial)
theorem plain13_okd : ∀ v, plain13_d v = pevCall Tryz.prog E_from13 plain13_h Tryz.f71 plain13_i plain13_o plain13_r v := by
  rintro ⟨a0, ⟨⟩⟩
  kernel_rfl
theorem plain13_q : loopList (bodyOf Tryz.f71) 0 = [(0, loopOf Tryz.f71 0)] := by kernel_rfl
theorem plain13_b : Tryz.f71.body.isSome = true := by kernel_rfl
theorem plain13_n : (Tryz.f71.name == "runtime.NumGoroutine") = false := by kernel_rfl
theorem plain13_ok (v : denL (leaves plain13_i)) : plain13 v = pevCall Tryz.prog E_from13 plain13_h Tryz.f71 plain13_i plain13_o plain13_r v := (plain13_eq v).trans (plain13_okd v)
theorem plain13_spec : SpecOK Tryz.prog 71 (mkCall 1 plain13_i plain13_o plain13_r plain13) := call_spec E_from13_ok Tryz.func71 plain13_b plain13_n rfl plain13_ok (LoopsOK_of plain13_q ⟨plain13_l0, trivial⟩)
def E_plain13 : Env := E_from13.ext 71 true true (mkCall 1 plain13_i plain13_o plain13_r plain13)
theorem E_plain13_ok : EnvOK Tryz.prog E_plain13 := Env.ext_ok E_from13_ok plain13_spec (fun _ => mkCall_local rfl rfl) (fun _ => mkCall_in rfl rfl)

-- archipelago/archipelagoref01.Ints
abbrev ints01_h : Hints := { loop := fun n => match n with | 0 => loopBy 0 26 ints01_i0 ints01_o0 ints01_s0 | _ => fun _ _ _ => none, fp := fun n => match n with | 6 => [[], [], [], [], [], [], [], [], []] | _ => [] }
theorem ints01_s0_ok : ∀ v, ints01_s0 v = roundOf Tryz.prog E_plain13 ints01_h 1 0 26 (loopOf Tryz.f16 0) ints01_i0 ints01_o0 v := by
  rintro ⟨a0, a1, a2, ⟨⟩⟩
  kernel_rfl
theorem ints01_q0 : loopList (loopOf Tryz.f16 0) 1 = [] := by kernel_rfl
theorem ints01_l0 : CodeOK Tryz.prog 0 (.loop (loopOf Tryz.f16 0)) (ints01_h.loop 0) := loop_ok E_plain13_ok (ints01_s0_ok) (LoopsOK_of ints01_q0 trivial)
theorem ints01_okd : ∀ v, ints01_d v = pevCall Tryz.prog E_plain13 ints01_h Tryz.f16 ints01_i ints01_o ints01_r v := by
  rintro ⟨a0, a1, ⟨⟩⟩
  kernel_rfl
theorem ints01_q : loopList (bodyOf Tryz.f16) 0 = [(0, loopOf Tryz.f16 0)] := by kernel_rfl
theorem ints01_b : Tryz.f16.body.isSome = true := by kernel_rfl
theorem ints01_n : (Tryz.f16.name == "runtime.NumGoroutine") = false := by kernel_rfl
theorem ints01_ok (v : denL (leaves ints01_i)) : ints01 v = pevCall Tryz.prog E_plain13 ints01_h Tryz.f16 ints01_i ints01_o ints01_r v := (ints01_eq v).trans (ints01_okd v)
theorem ints01_spec : SpecOK Tryz.prog 16 (mkCall 2 ints01_i ints01_o ints01_r ints01) := call_spec E_plain13_ok Tryz.func16 ints01_b ints01_n rfl ints01_ok (LoopsOK_of ints01_q ⟨ints01_l0, trivial⟩)
def E_ints01 : Env := E_plain13.ext 16 true true (mkCall 2 ints01_i ints01_o ints01_r ints01)
theorem E_ints01_ok : EnvOK Tryz.prog E_ints01 := Env.ext_ok E_plain13_ok ints01_spec (fun _ => mkCall_local rfl rfl) (fun _ => mkCall_in rfl rfl)

-- archipelago/archipelagoref14.Lists
abbrev lists14_h : Hints := { loop := fun n => match n with | 0 => loopBy 0 27 lists14_i0 lists14_o0 lists14_s0 | _ => fun _ _ _ => none, fp := fun n => match n with | 6 => [[], [], [], [], [], [], [], [], [], []] | _ => [] }
theorem lists14_s0_ok : ∀ v, lists14_s0 v = roundOf Tryz.prog E_ints01 lists14_h 1 0 27 (loopOf Tryz.f70 0) lists14_i0 lists14_o0 v := by
  rintro ⟨a0, a1, a2, ⟨⟩⟩
  kernel_rfl
theorem lists14_q0 : loopList (loopOf Tryz.f70 0) 1 = [] := by kernel_rfl
theorem lists14_l0 : CodeOK Tryz.prog 0 (.loop (loopOf Tryz.f70 0)) (lists14_h.loop 0) := loop_ok E_ints01_ok (lists14_s0_ok) (LoopsOK_of lists14_q0 trivial)
theorem lists14_okd : ∀ v, lists14_d v = pevCall Tryz.prog E_ints01 lists14_h Tryz.f70 lists14_i lists14_o lists14_r v := by
  rintro ⟨a0, a1, ⟨⟩⟩
  kernel_rfl
theorem lists14_q : loopList (bodyOf Tryz.f70) 0 = [(0, loopOf Tryz.f70 0)] := by kernel_rfl
theorem lists14_b : Tryz.f70.body.isSome = true := by kernel_rfl
theorem lists14_n : (Tryz.f70.name == "runtime.NumGoroutine") = false := by kernel_rfl
theorem lists14_ok (v : denL (leaves lists14_i)) : lists14 v = pevCall Tryz.prog E_ints01 lists14_h Tryz.f70 lists14_i lists14_o lists14_r v := (lists14_eq v).trans (lists14_okd v)
theorem lists14_spec : SpecOK Tryz.prog 70 (mkCall 2 lists14_i lists14_o lists14_r lists14) := call_spec E_ints01_ok Tryz.func70 lists14_b lists14_n rfl lists14_ok (LoopsOK_of lists14_q ⟨lists14_l0, trivial⟩)
def E_lists14 : Env := E_ints01.ext 70 true true (mkCall 2 lists14_i lists14_o lists14_r lists14)
theorem E_lists14_ok : EnvOK Tryz.prog E_lists14 := Env.ext_ok E_ints01_ok lists14_spec (fun _ => mkCall_local rfl rfl) (fun _ => mkCall_in rfl rfl)

end
end Go.Pev
end
section
/- The models are what the program computes. Printed by a program. -/
namespace Go.Pev
open Go.Proofs
set_option maxRecDepth 100000
noncomputable section
-- archipelago/archipelagoref18.Right
abbrev right18_h : Hints := { loop := fun n => match n with | 0 => loopBy 0 106 right18_i0 right18_o0 right18_s0 | 1 => loopBy 0 106 right18_i1 right18_o1 right18_s1 | _ => fun _ _ _ => none, fp := fun n => match n with | 16 => [[], [], [], [], [0], [0], []] | _ => [] }
theorem right18_s1_ok : ∀ v, right18_s1 v = roundOf Tryz.prog E_lists14 right18_h 2 0 106 (loopOf Tryz.f46 1) right18_i1 right18_o1 v := by
  rintro ⟨a0, a1, a2, a3, a4, a5, a6, a7, a8, a9, a10, a11, a12, a13, a14, a15, a16, a17, a18, a19, a20, a21, a22, a23, a24, a25, ⟨⟩⟩
  kernel_rfl
theorem right18_q1 : loopList (loopOf Tryz.f46 1) 2 = [] := by kernel_rfl
theorem right18_l1 : CodeOK Tryz.prog 0 (.loop (loopOf Tryz.f46 1)) (right18_h.loop 1) := loop_ok E_lists14_ok (right18_s1_ok) (LoopsOK_of right18_q1 trivial)
theorem right18_s0_ok : ∀ v, right18_s0 v = roundOf Tryz.prog E_lists14 right18_h 1 0 106 (loopOf Tryz.f46 0) right18_i0 right18_o0 v := by
  rintro ⟨a0, a1, a2, a3, a4, a5, ⟨⟩⟩
  kernel_rfl
theorem right18_q0 : loopList (loopOf Tryz.f46 0) 1 = [(1, loopOf Tryz.f46 1)] := by kernel_rfl
theorem right18_l0 : CodeOK Tryz.prog 0 (.loop (loopOf Tryz.f46 0)) (right18_h.loop 0) := loop_ok E_lists14_ok (right18_s0_ok) (LoopsOK_of right18_q0 ⟨right18_l1, trivial⟩)
theorem right18_okd : ∀ v, right18_d v = pevCall Tryz.prog E_lists14 right18_h Tryz.f46 right18_i right18_o right18_r v := by
  rintro ⟨a0, ⟨⟩⟩
  kernel_rfl
theorem right18_q : loopList (bodyOf Tryz.f46) 0 = [(0, loopOf Tryz.f46 0)] := by kernel_rfl
theorem right18_b : Tryz.f46.body.isSome = true := by kernel_rfl
theorem right18_n : (Tryz.f46.name == "runtime.NumGoroutine") = false := by kernel_rfl
theorem right18_ok (v : denL (leaves right18_i)) : right18 v = pevCall Tryz.prog E_lists14 right18_h Tryz.f46 right18_i right18_o right18_r v := (right18_eq v).trans (right18_okd v)
theorem right18_spec : SpecOK Tryz.prog 46 (mkCall 1 right18_i right18_o right18_r right18) := call_spec E_lists14_ok Tryz.func46 right18_b right18_n rfl right18_ok (LoopsOK_of right18_q ⟨right18_l0, trivial⟩)
def E_right18 : Env := E_lists14.ext 46 true true (mkCall 1 right18_i right18_o right18_r right18)
theorem E_right18_ok : EnvOK Tryz.prog E_right18 := Env.ext_ok E_lists14_ok right18_spec (fun _ => mkCall_local rfl rfl) (fun _ => mkCall_in rfl rfl)

-- archipelago/archipelagoref18.place
abbrev place18_h : Hints := { loop := fun n => match n with | 0 => loopBy 0 22 place18_i0 place18_o0 place18_s0 | _ => fun _ _ _ => none }
theorem place18_s0_ok : ∀ v, place18_s0 v = roundOf Tryz.prog E_right18 place18_h 1 0 22 (loopOf Tryz.f48 0) place18_i0 place18_o0 v := by
  rintro ⟨a0, a1, a2, a3, ⟨⟩⟩
  kernel_rfl
theorem place18_q0 : loopList (loopOf Tryz.f48 0) 1 = [] := by kernel_rfl
theorem place18_l0 : CodeOK Tryz.prog 0 (.loop (loopOf Tryz.f48 0)) (place18_h.loop 0) := loop_ok E_right18_ok (place18_s0_ok) (LoopsOK_of place18_q0 trivial)
theorem place18_okd : ∀ v, place18_d v = pevCall Tryz.prog E_right18 place18_h Tryz.f48 place18_i place18_o place18_r v := by
  rintro ⟨a0, a1, ⟨⟩⟩
  kernel_rfl
theorem place18_q : loopList (bodyOf Tryz.f48) 0 = [(0, loopOf Tryz.f48 0)] := by kernel_rfl
theorem place18_b : Tryz.f48.body.isSome = true := by kernel_rfl
theorem place18_n : (Tryz.f48.name == "runtime.NumGoroutine") = false := by kernel_rfl
theorem place18_ok (v : denL (leaves place18_i)) : place18 v = pevCall Tryz.prog E_right18 place18_h Tryz.f48 place18_i place18_o place18_r v := (place18_eq v).trans (place18_okd v)
theorem place18_spec : SpecOK Tryz.prog 48 (mkCall 2 place18_i place18_o place18_r place18) := call_spec E_right18_ok Tryz.func48 place18_b place18_n rfl place18_ok (LoopsOK_of place18_q ⟨place18_l0, trivial⟩)
def E_place18 : Env := E_right18.ext 48 true true (mkCall 2 place18_i place18_o place18_r place18)
theorem E_place18_ok : EnvOK Tryz.prog E_place18 := Env.ext_ok E_right18_ok place18_spec (fun _ => mkCall_local rfl rfl) (fun _ => mkCall_in rfl rfl)

-- archipelago/archipelagoref18.Of
abbrev of18_h : Hints := {  }
theorem of18_okd : ∀ v, of18_d v = pevCall Tryz.prog E_place18 of18_h Tryz.f26 of18_i of18_o of18_r v := by
  rintro ⟨a0, a1, ⟨⟩⟩
  kernel_rfl
theorem of18_q : loopList (bodyOf Tryz.f26) 0 = [] := by kernel_rfl
theorem of18_b : Tryz.f26.body.isSome = true := by kernel_rfl
theorem of18_n : (Tryz.f26.name == "runtime.NumGoroutine") = false := by kernel_rfl
theorem of18_ok (v : denL (leaves of18_i)) : of18 v = pevCall Tryz.prog E_place18 of18_h Tryz.f26 of18_i of18_o of18_r v := (of18_eq v).trans (of18_okd v)
theorem of18_spec : SpecOK Tryz.prog 26 (mkCall 2 of18_i of18_o of18_r of18) := call_spec E_place18_ok Tryz.func26 of18_b of18_n rfl of18_ok (LoopsOK_of of18_q trivial)
def E_of18 : Env := E_place18.ext 26 true true (mkCall 2 of18_i of18_o of18_r of18)
theorem E_of18_ok : EnvOK Tryz.prog E_of18 := Env.ext_ok E_place18_ok of18_spec (fun _ => mkCall_local rfl rfl) (fun _ => mkCall_in rfl rfl)

-- archipelago/tour.sized
abbrev tsized_h : Hints := {  }
theorem tsized_okd : ∀ v, tsized_d v = pevCall Tryz.prog E_of18 tsized_h Tryz.f52 tsized_i tsized_o tsized_r v := by
  rintro ⟨a0, ⟨⟩⟩
  kernel_rfl
theorem tsized_q : loopList (bodyOf Tryz.f52) 0 = [] := by kernel_rfl
theorem tsized_b : Tryz.f52.body.isSome = true := by kernel_rfl
theorem tsized_n : (Tryz.f52.name == "runtime.NumGoroutine") = false := by kernel_rfl
theorem tsized_ok (v : denL (leaves tsized_i)) : tsized v = pevCall Tryz.prog E_of18 tsized_h Tryz.f52 tsized_i tsized_o tsized_r v := (tsized_eq v).trans (tsized_okd v)
theorem tsized_spec : SpecOK Tryz.prog 52 (mkCall 1 tsized_i tsized_o tsized_r tsized) := call_spec E_of18_ok Tryz.func52 tsized_b tsized_n rfl tsized_ok (LoopsOK_of tsized_q trivial)
def E_tsized : Env := E_of18.ext 52 true true (mkCall 1 tsized_i tsized_o tsized_r tsized)
theorem E_tsized_ok : EnvOK Tryz.prog E_tsized := Env.ext_ok E_of18_ok tsized_spec (fun _ => mkCall_local rfl rfl) (fun _ => mkCall_in rfl rfl)

-- archipelago/tour.in
abbrev tin_h : Hints := {  }
theorem tin_okd : ∀ v, tin_d v = pevCall Tryz.prog E_tsized tin_h Tryz.f44 tin_i tin_o tin_r v := by
  rintro ⟨a0, a1, ⟨⟩⟩
  kernel_rfl
theorem tin_q : loopList (bodyOf Tryz.f44) 0 = [] := by kernel_rfl
theorem tin_b : Tryz.f44.body.isSome = true := by kernel_rfl
theorem tin_n : (Tryz.f44.name == "runtime.NumGoroutine") = false := by kernel_rfl
theorem tin_ok (v : denL (leaves tin_i)) : tin v = pevCall Tryz.prog E_tsized tin_h Tryz.f44 tin_i tin_o tin_r v := (tin_eq v).trans (tin_okd v)
theorem tin_spec : SpecOK Tryz.prog 44 (mkCall 2 tin_i tin_o tin_r tin) := call_spec E_tsized_ok Tryz.func44 tin_b tin_n rfl tin_ok (LoopsOK_of tin_q trivial)
def E_tin : Env := E_tsized.ext 44 true true (mkCall 2 tin_i tin_o tin_r tin)
theorem E_tin_ok : EnvOK Tryz.prog E_tin := Env.ext_ok E_tsized_ok tin_spec (fun _ => mkCall_local rfl rfl) (fun _ => mkCall_in rfl rfl)

-- archipelago/tour.Arc
abbrev tarc_h : Hints := {  }
theorem tarc_okd : ∀ v, tarc_d v = pevCall Tryz.prog E_tin tarc_h Tryz.f62 tarc_i tarc_o tarc_r v := by
  rintro ⟨a0, a1, a2, ⟨⟩⟩
  kernel_rfl
theorem tarc_q : loopList (bodyOf Tryz.f62) 0 = [] := by kernel_rfl
theorem tarc_b : Tryz.f62.body.isSome = true := by kernel_rfl
theorem tarc_n : (Tryz.f62.name == "runtime.NumGoroutine") = false := by kernel_rfl
theorem tarc_ok (v : denL (leaves tarc_i)) : tarc v = pevCall Tryz.prog E_tin tarc_h Tryz.f62 tarc_i tarc_o tarc_r v := (tarc_eq v).trans (tarc_okd v)
theorem tarc_spec : SpecOK Tryz.prog 62 (mkCall 3 tarc_i tarc_o tarc_r tarc) := call_spec E_tin_ok Tryz.func62 tarc_b tarc_n rfl tarc_ok (LoopsOK_of tarc_q trivial)
def E_tarc : Env := E_tin.ext 62 true true (mkCall 3 tarc_i tarc_o tarc_r tarc)
theorem E_tarc_ok : EnvOK Tryz.prog E_tarc := Env.ext_ok E_tin_ok tarc_spec (fun _ => mkCall_local rfl rfl) (fun _ => mkCall_in rfl rfl)

-- archipelago/tour.Token
abbrev ttoken_h : Hints := { fp := fun n => match n with | 5 => [[], [], [], [], [], [], [], [], []] | _ => [] }
theorem ttoken_okd : ∀ v, ttoken_d v = pevCall Tryz.prog E_tarc ttoken_h Tryz.f35 ttoken_i ttoken_o ttoken_r v := by
  rintro ⟨a0, a1, ⟨⟩⟩
  kernel_rfl
theorem ttoken_q : loopList (bodyOf Tryz.f35) 0 = [] := by kernel_rfl
theorem ttoken_b : Tryz.f35.body.isSome = true := by kernel_rfl
theorem ttoken_n : (Tryz.f35.name == "runtime.NumGoroutine") = false := by kernel_rfl
theorem ttoken_ok (v : denL (leaves ttoken_i)) : ttoken v = pevCall Tryz.prog E_tarc ttoken_h Tryz.f35 ttoken_i ttoken_o ttoken_r v := (ttoken_eq v).trans (ttoken_okd v)
theorem ttoken_spec : SpecOK Tryz.prog 35 (mkCall 2 ttoken_i ttoken_o ttoken_r ttoken) := call_spec E_tarc_ok Tryz.func35 ttoken_b ttoken_n rfl ttoken_ok (LoopsOK_of ttoken_q trivial)
def E_ttoken : Env := E_tarc.ext 35 true true (mkCall 2 ttoken_i ttoken_o ttoken_r ttoken)
theorem E_ttoken_ok : EnvOK Tryz.prog E_ttoken := Env.ext_ok E_tarc_ok ttoken_spec (fun _ => mkCall_local rfl rfl) (fun _ => mkCall_in rfl rfl)

-- archipelago/tour.Make
abbrev tmake_h : Hints := { loop := fun n => match n with | 0 => loopBy 0 25 tmake_i0 tmake_o0 tmake_s0 | _ => fun _ _ _ => none }
theorem tmake_s0_ok : ∀ v, tmake_s0 v = roundOf Tryz.prog E_ttoken tmake_h 1 0 25 (loopOf Tryz.f32 0) tmake_i0 tmake_o0 v := by
  rintro ⟨a0, a1, a2, a3, a4, ⟨⟩⟩
  kernel_rfl
theorem tmake_q0 : loopList (loopOf Tryz.f32 0) 1 = [] := by kernel_rfl
theorem tmake_l0 : CodeOK Tryz.prog 0 (.loop (loopOf Tryz.f32 0)) (tmake_h.loop 0) := loop_ok E_ttoken_ok (tmake_s0_ok) (LoopsOK_of tmake_q0 trivial)
theorem tmake_okd : ∀ v, tmake_d v = pevCall Tryz.prog E_ttoken tmake_h Tryz.f32 tmake_i tmake_o tmake_r v := by
  rintro ⟨a0, ⟨⟩⟩
  kernel_rfl
theorem tmake_q : loopList (bodyOf Tryz.f32) 0 = [(0, loopOf Tryz.f32 0)] := by kernel_rfl
theorem tmake_b : Tryz.f32.body.isSome = true := by kernel_rfl
theorem tmake_n : (Tryz.f32.name == "runtime.NumGoroutine") = false := by kernel_rfl
theorem tmake_ok (v : denL (leaves tmake_i)) : tmake v = pevCall Tryz.prog E_ttoken tmake_h Tryz.f32 tmake_i tmake_o tmake_r v := (tmake_eq v).trans (tmake_okd v)
theorem tmake_spec : SpecOK Tryz.prog 32 (mkCall 1 tmake_i tmake_o tmake_r tmake) := call_spec E_ttoken_ok Tryz.func32 tmake_b tmake_n rfl tmake_ok (LoopsOK_of tmake_q ⟨tmake_l0, trivial⟩)
def E_tmake : Env := E_ttoken.ext 32 true true (mkCall 1 tmake_i tmake_o tmake_r tmake)
theorem E_tmake_ok : EnvOK Tryz.prog E_tmake := Env.ext_ok E_ttoken_ok tmake_spec (fun _ => mkCall_local rfl rfl) (fun _ => mkCall_in rfl rfl)

-- slices.Index[[]int,int]
abbrev indexI_h : Hints := { loop := fun n => match n with | 0 => loopBy 0 19 indexI_i0 indexI_o0 indexI_s0 | _ => fun _ _ _ => none }
theorem indexI_s0_ok : ∀ v, indexI_s0 v = roundOf Tryz.prog E_tmake indexI_h 1 0 19 (loopOf Tryz.f63 0) indexI_i0 indexI_o0 v := by
  rintro ⟨a0, a1, a2, a3, ⟨⟩⟩
  kernel_rfl
theorem indexI_q0 : loopList (loopOf Tryz.f63 0) 1 = [] := by kernel_rfl
theorem indexI_l0 : CodeOK Tryz.prog 0 (.loop (loopOf Tryz.f63 0)) (indexI_h.loop 0) := loop_ok E_tmake_ok (indexI_s0_ok) (LoopsOK_of indexI_q0 trivial)
theorem indexI_okd : ∀ v, indexI_d v = pevCall Tryz.prog E_tmake indexI_h Tryz.f63 indexI_i indexI_o indexI_r v := by
  rintro ⟨a0, a1, ⟨⟩⟩
  kernel_rfl
theorem indexI_q : loopList (bodyOf Tryz.f63) 0 = [(0, loopOf Tryz.f63 0)] := by kernel_rfl
theorem indexI_b : Tryz.f63.body.isSome = true := by kernel_rfl
theorem indexI_n : (Tryz.f63.name == "runtime.NumGoroutine") = false := by kernel_rfl
theorem indexI_ok (v : denL (leaves indexI_i)) : indexI v = pevCall Tryz.prog E_tmake indexI_h Tryz.f63 indexI_i indexI_o indexI_r v := (indexI_eq v).trans (indexI_okd v)
theorem indexI_spec : SpecOK Tryz.prog 63 (mkCall 2 indexI_i indexI_o indexI_r indexI) := call_spec E_tmake_ok Tryz.func63 indexI_b indexI_n rfl indexI_ok (LoopsOK_of indexI_q ⟨indexI_l0, trivial⟩)
def E_indexI : Env := E_tmake.ext 63 true true (mkCall 2 indexI_i indexI_o indexI_r indexI)
theorem E_indexI_ok : EnvOK Tryz.prog E_indexI := Env.ext_ok E_tmake_ok indexI_spec (fun _ => mkCall_local rfl rfl) (fun _ => mkCall_in rfl rfl)

-- slices.Contains[[]int,int]
abbrev containsI_h : Hints := {  }
theorem containsI_okd : ∀ v, containsI_d v = pevCall Tryz.prog E_indexI containsI_h Tryz.f67 containsI_i containsI_o containsI_r v := by
  rintro ⟨a0, a1, ⟨⟩⟩
  kernel_rfl
theorem containsI_q : loopList (bodyOf Tryz.f67) 0 = [] := by kernel_rfl
theorem containsI_b : Tryz.f67.body.isSome = true := by kernel_rfl
theorem containsI_n : (Tryz.f67.name == "runtime.NumGoroutine") = false := by kernel_rfl
theorem containsI_ok (v : denL (leaves containsI_i)) : containsI v = pevCall Tryz.prog E_indexI containsI_h Tryz.f67 containsI_i containsI_o containsI_r v := (containsI_eq v).trans (containsI_okd v)
theorem containsI_spec : SpecOK Tryz.prog 67 (mkCall 2 containsI_i containsI_o containsI_r containsI) := call_spec E_indexI_ok Tryz.func67 containsI_b containsI_n rfl containsI_ok (LoopsOK_of containsI_q trivial)
def E_containsI : Env := E_indexI.ext 67 true true (mkCall 2 containsI_i containsI_o containsI_r containsI)
theorem E_containsI_ok : EnvOK Tryz.prog E_containsI := Env.ext_ok E_indexI_ok containsI_spec (fun _ => mkCall_local rfl rfl) (fun _ => mkCall_in rfl rfl)

-- slices.Min[[]int,int]
abbrev minI_h : Hints := { loop := fun n => match n with | 0 => loopBy 0 25 minI_i0 minI_o0 minI_s0 | _ => fun _ _ _ => none }
theorem minI_s0_ok : ∀ v, minI_s0 v = roundOf Tryz.prog E_containsI minI_h 1 0 25 (loopOf Tryz.f55 0) minI_i0 minI_o0 v := by
  rintro ⟨a0, a1, a2, ⟨⟩⟩
  kernel_rfl
theorem minI_q0 : loopList (loopOf Tryz.f55 0) 1 = [] := by kernel_rfl
theorem minI_l0 : CodeOK Tryz.prog 0 (.loop (loopOf Tryz.f55 0)) (minI_h.loop 0) := loop_ok E_containsI_ok (minI_s0_ok) (LoopsOK_of minI_q0 trivial)
theorem minI_okd : ∀ v, minI_d v = pevCall Tryz.prog E_containsI minI_h Tryz.f55 minI_i minI_o minI_r v := by
  rintro ⟨a0, ⟨⟩⟩
  kernel_rfl
theorem minI_q : loopList (bodyOf Tryz.f55) 0 = [(0, loopOf Tryz.f55 0)] := by kernel_rfl
theorem minI_b : Tryz.f55.body.isSome = true := by kernel_rfl
theorem minI_n : (Tryz.f55.name == "runtime.NumGoroutine") = false := by kernel_rfl
theorem minI_ok (v : denL (leaves minI_i)) : minI v = pevCall Tryz.prog E_containsI minI_h Tryz.f55 minI_i minI_o minI_r v := (minI_eq v).trans (minI_okd v)
theorem minI_spec : SpecOK Tryz.prog 55 (mkCall 1 minI_i minI_o minI_r minI) := call_spec E_containsI_ok Tryz.func55 minI_b minI_n rfl minI_ok (LoopsOK_of minI_q ⟨minI_l0, trivial⟩)
def E_minI : Env := E_containsI.ext 55 true true (mkCall 1 minI_i minI_o minI_r minI)
theorem E_minI_ok : EnvOK Tryz.prog E_minI := Env.ext_ok E_containsI_ok minI_spec (fun _ => mkCall_local rfl rfl) (fun _ => mkCall_in rfl rfl)

-- slices.Grow[[]int,int]
abbrev growI_h : Hints := {  }
theorem growI_okd : ∀ v, growI_d v = pevCall Tryz.prog E_minI growI_h Tryz.f109 growI_i growI_o growI_r v := by
  rintro ⟨a0, ⟨⟩⟩
  kernel_rfl
theorem growI_q : loopList (bodyOf Tryz.f109) 0 = [] := by kernel_rfl
theorem growI_b : Tryz.f109.body.isSome = true := by kernel_rfl
theorem growI_n : (Tryz.f109.name == "runtime.NumGoroutine") = false := by kernel_rfl
theorem growI_ok (v : denL (leaves growI_i)) : growI v = pevCall Tryz.prog E_minI growI_h Tryz.f109 growI_i growI_o growI_r v := (growI_eq v).trans (growI_okd v)
theorem growI_spec : SpecOK Tryz.prog 109 (mkCall 2 growI_i growI_o growI_r growI) := call_spec E_minI_ok Tryz.func109 growI_b growI_n rfl growI_ok (LoopsOK_of growI_q trivial)
def E_growI : Env := E_minI.ext 109 false true (mkCall 2 growI_i growI_o growI_r growI)
theorem E_growI_ok : EnvOK Tryz.prog E_growI := Env.ext_ok E_minI_ok growI_spec ((by simp)) (fun _ => mkCall_in rfl rfl)

end
end Go.Pev
end
section
/- The models are what the program computes. Printed by a program. -/
namespace Go.Pev
open Go.Proofs
set_option maxRecDepth 100000
noncomputable section
-- slices.Concat[[]int,int]
abbrev concatI_h : Hints := { loop := fun n => match n with | 0 => loopBy 0 36 concatI_i0 concatI_o0 concatI_s0 | 1 => loopBy 0 36 concatI_i1 concatI_o1 concatI_s1 | _ => fun _ _ _ => none }
theorem concatI_s1_ok : ∀ v, concatI_s1 v = roundOf Tryz.prog E_growI concatI_h 2 0 36 (loopOf Tryz.f83 1) concatI_i1 concatI_o1 v := by
  rintro ⟨a0, a1, a2, a3, ⟨⟩⟩
  kernel_rfl
theorem concatI_q1 : loopList (loopOf Tryz.f83 1) 2 = [] := by kernel_rfl
theorem concatI_l1 : CodeOK Tryz.prog 0 (.loop (loopOf Tryz.f83 1)) (concatI_h.loop 1) := loop_ok E_growI_ok (concatI_s1_ok) (LoopsOK_of concatI_q1 trivial)
theorem concatI_s0_ok : ∀ v, concatI_s0 v = roundOf Tryz.prog E_growI concatI_h 1 0 36 (loopOf Tryz.f83 0) concatI_i0 concatI_o0 v := by
  rintro ⟨a0, a1, a2, a3, a4, ⟨⟩⟩
  kernel_rfl
theorem concatI_q0 : loopList (loopOf Tryz.f83 0) 1 = [] := by kernel_rfl
theorem concatI_l0 : CodeOK Tryz.prog 0 (.loop (loopOf Tryz.f83 0)) (concatI_h.loop 0) := loop_ok E_growI_ok (concatI_s0_ok) (LoopsOK_of concatI_q0 trivial)
theorem concatI_okd : ∀ v, concatI_d v = pevCall Tryz.prog E_growI concatI_h Tryz.f83 concatI_i concatI_o concatI_r v := by
  rintro ⟨a0, ⟨⟩⟩
  kernel_rfl
theorem concatI_q : loopList (bodyOf Tryz.f83) 0 = [(0, loopOf Tryz.f83 0), (1, loopOf Tryz.f83 1)] := by kernel_rfl
theorem concatI_b : Tryz.f83.body.isSome = true := by kernel_rfl
theorem concatI_n : (Tryz.f83.name == "runtime.NumGoroutine") = false := by kernel_rfl
theorem concatI_ok (v : denL (leaves concatI_i)) : concatI v = pevCall Tryz.prog E_growI concatI_h Tryz.f83 concatI_i concatI_o concatI_r v := (concatI_eq v).trans (concatI_okd v)
theorem concatI_spec : SpecOK Tryz.prog 83 (mkCall 1 concatI_i concatI_o concatI_r concatI) := call_spec E_growI_ok Tryz.func83 concatI_b concatI_n rfl concatI_ok (LoopsOK_of concatI_q ⟨concatI_l0, concatI_l1, trivial⟩)
def E_concatI : Env := E_growI.ext 83 true true (mkCall 1 concatI_i concatI_o concatI_r concatI)
theorem E_concatI_ok : EnvOK Tryz.prog E_concatI := Env.ext_ok E_growI_ok concatI_spec (fun _ => mkCall_local rfl rfl) (fun _ => mkCall_in rfl rfl)

-- archipelago/ring.Right$1: gone through in place
theorem ringOdd_b : Tryz.f84.body.isSome = true := by kernel_rfl
theorem ringOdd_n : (Tryz.f84.name == "runtime.NumGoroutine") = false := by kernel_rfl
theorem ringOdd_z : loops (bodyOf Tryz.f84) = 0 := by kernel_rfl

def E_ringOdd_1 : Env := E_concatI.ext 84 false false (mkInline Tryz.prog E_concatI {} Tryz.f84)
theorem E_ringOdd_1_ok : EnvOK Tryz.prog E_ringOdd_1 := Env.ext_ok E_concatI_ok (inline_spec E_concatI_ok Tryz.func84 ringOdd_b ringOdd_n ringOdd_z) (by simp) (by simp)

-- slices.IndexFunc[[]int,int]
abbrev idxFuncI_odd_h : Hints := { loop := fun n => match n with | 0 => loopBy 0 19 idxFuncI_odd_i0 idxFuncI_odd_o0 idxFuncI_odd_s0 | _ => fun _ _ _ => none }
theorem idxFuncI_odd_s0_ok : ∀ v, idxFuncI_odd_s0 v = roundOf Tryz.prog E_ringOdd_1 idxFuncI_odd_h 1 0 19 (loopOf Tryz.f49 0) idxFuncI_odd_i0 idxFuncI_odd_o0 v := by
  rintro ⟨a0, a1, a2, ⟨⟩⟩
  kernel_rfl
theorem idxFuncI_odd_q0 : loopList (loopOf Tryz.f49 0) 1 = [] := by kernel_rfl
theorem idxFuncI_odd_l0 : CodeOK Tryz.prog 0 (.loop (loopOf Tryz.f49 0)) (idxFuncI_odd_h.loop 0) := loop_ok E_ringOdd_1_ok (idxFuncI_odd_s0_ok) (LoopsOK_of idxFuncI_odd_q0 trivial)
theorem idxFuncI_odd_okd : ∀ v, idxFuncI_odd_d v = pevCall Tryz.prog E_ringOdd_1 idxFuncI_odd_h Tryz.f49 idxFuncI_odd_i idxFuncI_odd_o idxFuncI_odd_r v := by
  rintro ⟨a0, ⟨⟩⟩
  kernel_rfl
theorem idxFuncI_odd_q : loopList (bodyOf Tryz.f49) 0 = [(0, loopOf Tryz.f49 0)] := by kernel_rfl
theorem idxFuncI_odd_b : Tryz.f49.body.isSome = true := by kernel_rfl
theorem idxFuncI_odd_n : (Tryz.f49.name == "runtime.NumGoroutine") = false := by kernel_rfl
theorem idxFuncI_odd_ok (v : denL (leaves idxFuncI_odd_i)) : idxFuncI_odd v = pevCall Tryz.prog E_ringOdd_1 idxFuncI_odd_h Tryz.f49 idxFuncI_odd_i idxFuncI_odd_o idxFuncI_odd_r v := (idxFuncI_odd_eq v).trans (idxFuncI_odd_okd v)
theorem idxFuncI_odd_spec : SpecOK Tryz.prog 49 (mkCall 2 idxFuncI_odd_i idxFuncI_odd_o idxFuncI_odd_r idxFuncI_odd) := call_spec E_ringOdd_1_ok Tryz.func49 idxFuncI_odd_b idxFuncI_odd_n rfl idxFuncI_odd_ok (LoopsOK_of idxFuncI_odd_q ⟨idxFuncI_odd_l0, trivial⟩)
def E_idxFuncI_odd : Env := E_ringOdd_1.extC 49 1 84 (mkCall 2 idxFuncI_odd_i idxFuncI_odd_o idxFuncI_odd_r idxFuncI_odd)
theorem E_idxFuncI_odd_ok : EnvOK Tryz.prog E_idxFuncI_odd := Env.extC_ok E_ringOdd_1_ok idxFuncI_odd_spec (mkCall_in rfl rfl)

-- slices.ContainsFunc[[]int,int]
abbrev contFuncI_odd_h : Hints := {  }
theorem contFuncI_odd_okd : ∀ v, contFuncI_odd_d v = pevCall Tryz.prog E_idxFuncI_odd contFuncI_odd_h Tryz.f42 contFuncI_odd_i contFuncI_odd_o contFuncI_odd_r v := by
  rintro ⟨a0, ⟨⟩⟩
  kernel_rfl
theorem contFuncI_odd_q : loopList (bodyOf Tryz.f42) 0 = [] := by kernel_rfl
theorem contFuncI_odd_b : Tryz.f42.body.isSome = true := by kernel_rfl
theorem contFuncI_odd_n : (Tryz.f42.name == "runtime.NumGoroutine") = false := by kernel_rfl
theorem contFuncI_odd_ok (v : denL (leaves contFuncI_odd_i)) : contFuncI_odd v = pevCall Tryz.prog E_idxFuncI_odd contFuncI_odd_h Tryz.f42 contFuncI_odd_i contFuncI_odd_o contFuncI_odd_r v := (contFuncI_odd_eq v).trans (contFuncI_odd_okd v)
theorem contFuncI_odd_spec : SpecOK Tryz.prog 42 (mkCall 2 contFuncI_odd_i contFuncI_odd_o contFuncI_odd_r contFuncI_odd) := call_spec E_idxFuncI_odd_ok Tryz.func42 contFuncI_odd_b contFuncI_odd_n rfl contFuncI_odd_ok (LoopsOK_of contFuncI_odd_q trivial)
def E_contFuncI_odd : Env := E_idxFuncI_odd.extC 42 1 84 (mkCall 2 contFuncI_odd_i contFuncI_odd_o contFuncI_odd_r contFuncI_odd)
theorem E_contFuncI_odd_ok : EnvOK Tryz.prog E_contFuncI_odd := Env.extC_ok E_idxFuncI_odd_ok contFuncI_odd_spec (mkCall_in rfl rfl)

-- archipelago/ring.once[int]
abbrev once_h : Hints := { loop := fun n => match n with | 0 => loopBy 0 23 once_i0 once_o0 once_s0 | _ => fun _ _ _ => none }
theorem once_s0_ok : ∀ v, once_s0 v = roundOf Tryz.prog E_contFuncI_odd once_h 1 0 23 (loopOf Tryz.f85 0) once_i0 once_o0 v := by
  rintro ⟨a0, a1, a2, a3, a4, ⟨⟩⟩
  kernel_rfl
theorem once_q0 : loopList (loopOf Tryz.f85 0) 1 = [] := by kernel_rfl
theorem once_l0 : CodeOK Tryz.prog 0 (.loop (loopOf Tryz.f85 0)) (once_h.loop 0) := loop_ok E_contFuncI_odd_ok (once_s0_ok) (LoopsOK_of once_q0 trivial)
theorem once_okd : ∀ v, once_d v = pevCall Tryz.prog E_contFuncI_odd once_h Tryz.f85 once_i once_o once_r v := by
  rintro ⟨a0, ⟨⟩⟩
  kernel_rfl
theorem once_q : loopList (bodyOf Tryz.f85) 0 = [(0, loopOf Tryz.f85 0)] := by kernel_rfl
theorem once_b : Tryz.f85.body.isSome = true := by kernel_rfl
theorem once_n : (Tryz.f85.name == "runtime.NumGoroutine") = false := by kernel_rfl
theorem once_ok (v : denL (leaves once_i)) : once v = pevCall Tryz.prog E_contFuncI_odd once_h Tryz.f85 once_i once_o once_r v := (once_eq v).trans (once_okd v)
theorem once_spec : SpecOK Tryz.prog 85 (mkCall 1 once_i once_o once_r once) := call_spec E_contFuncI_odd_ok Tryz.func85 once_b once_n rfl once_ok (LoopsOK_of once_q ⟨once_l0, trivial⟩)
def E_once : Env := E_contFuncI_odd.ext 85 true true (mkCall 1 once_i once_o once_r once)
theorem E_once_ok : EnvOK Tryz.prog E_once := Env.ext_ok E_contFuncI_odd_ok once_spec (fun _ => mkCall_local rfl rfl) (fun _ => mkCall_in rfl rfl)

-- archipelago/ring.Right
abbrev rright_h : Hints := {  }
theorem rright_okd : ∀ v, rright_d v = pevCall Tryz.prog E_once rright_h Tryz.f54 rright_i rright_o rright_r v := by
  rintro ⟨a0, ⟨⟩⟩
  kernel_rfl
theorem rright_q : loopList (bodyOf Tryz.f54) 0 = [] := by kernel_rfl
theorem rright_b : Tryz.f54.body.isSome = true := by kernel_rfl
theorem rright_n : (Tryz.f54.name == "runtime.NumGoroutine") = false := by kernel_rfl
theorem rright_ok (v : denL (leaves rright_i)) : rright v = pevCall Tryz.prog E_once rright_h Tryz.f54 rright_i rright_o rright_r v := (rright_eq v).trans (rright_okd v)
theorem rright_spec : SpecOK Tryz.prog 54 (mkCall 1 rright_i rright_o rright_r rright) := call_spec E_once_ok Tryz.func54 rright_b rright_n rfl rright_ok (LoopsOK_of rright_q trivial)
def E_rright : Env := E_once.ext 54 true true (mkCall 1 rright_i rright_o rright_r rright)
theorem E_rright_ok : EnvOK Tryz.prog E_rright := Env.ext_ok E_once_ok rright_spec (fun _ => mkCall_local rfl rfl) (fun _ => mkCall_in rfl rfl)

-- archipelago/ring.turned
abbrev turned_h : Hints := { fp := fun n => match n with | 1 => [[], [], [], [], [], [], [], [0], []] | _ => [] }
theorem turned_okd : ∀ v, turned_d v = pevCall Tryz.prog E_rright turned_h Tryz.f96 turned_i turned_o turned_r v := by
  rintro ⟨a0, a1, ⟨⟩⟩
  kernel_rfl
theorem turned_q : loopList (bodyOf Tryz.f96) 0 = [] := by kernel_rfl
theorem turned_b : Tryz.f96.body.isSome = true := by kernel_rfl
theorem turned_n : (Tryz.f96.name == "runtime.NumGoroutine") = false := by kernel_rfl
theorem turned_ok (v : denL (leaves turned_i)) : turned v = pevCall Tryz.prog E_rright turned_h Tryz.f96 turned_i turned_o turned_r v := (turned_eq v).trans (turned_okd v)
theorem turned_spec : SpecOK Tryz.prog 96 (mkCall 2 turned_i turned_o turned_r turned) := call_spec E_rright_ok Tryz.func96 turned_b turned_n rfl turned_ok (LoopsOK_of turned_q trivial)
def E_turned : Env := E_rright.ext 96 true true (mkCall 2 turned_i turned_o turned_r turned)
theorem E_turned_ok : EnvOK Tryz.prog E_turned := Env.ext_ok E_rright_ok turned_spec (fun _ => mkCall_local rfl rfl) (fun _ => mkCall_in rfl rfl)

-- archipelago/ring.places
abbrev places_h : Hints := { loop := fun n => match n with | 0 => loopBy 0 29 places_i0 places_o0 places_s0 | _ => fun _ _ _ => none }
theorem places_s0_ok : ∀ v, places_s0 v = roundOf Tryz.prog E_turned places_h 1 0 29 (loopOf Tryz.f95 0) places_i0 places_o0 v := by
  rintro ⟨a0, a1, a2, a3, a4, ⟨⟩⟩
  kernel_rfl
theorem places_q0 : loopList (loopOf Tryz.f95 0) 1 = [] := by kernel_rfl
theorem places_l0 : CodeOK Tryz.prog 0 (.loop (loopOf Tryz.f95 0)) (places_h.loop 0) := loop_ok E_turned_ok (places_s0_ok) (LoopsOK_of places_q0 trivial)
theorem places_okd : ∀ v, places_d v = pevCall Tryz.prog E_turned places_h Tryz.f95 places_i places_o places_r v := by
  rintro ⟨a0, a1, ⟨⟩⟩
  kernel_rfl
theorem places_q : loopList (bodyOf Tryz.f95) 0 = [(0, loopOf Tryz.f95 0)] := by kernel_rfl
theorem places_b : Tryz.f95.body.isSome = true := by kernel_rfl
theorem places_n : (Tryz.f95.name == "runtime.NumGoroutine") = false := by kernel_rfl
theorem places_ok (v : denL (leaves places_i)) : places v = pevCall Tryz.prog E_turned places_h Tryz.f95 places_i places_o places_r v := (places_eq v).trans (places_okd v)
theorem places_spec : SpecOK Tryz.prog 95 (mkCall 2 places_i places_o places_r places) := call_spec E_turned_ok Tryz.func95 places_b places_n rfl places_ok (LoopsOK_of places_q ⟨places_l0, trivial⟩)
def E_places : Env := E_turned.ext 95 true true (mkCall 2 places_i places_o places_r places)
theorem E_places_ok : EnvOK Tryz.prog E_places := Env.ext_ok E_turned_ok places_spec (fun _ => mkCall_local rfl rfl) (fun _ => mkCall_in rfl rfl)

-- archipelago/ring.From
abbrev rfrom_h : Hints := {  }
theorem rfrom_okd : ∀ v, rfrom_d v = pevCall Tryz.prog E_places rfrom_h Tryz.f61 rfrom_i rfrom_o rfrom_r v := by
  rintro ⟨a0, a1, ⟨⟩⟩
  kernel_rfl
theorem rfrom_q : loopList (bodyOf Tryz.f61) 0 = [] := by kernel_rfl
theorem rfrom_b : Tryz.f61.body.isSome = true := by kernel_rfl
theorem rfrom_n : (Tryz.f61.name == "runtime.NumGoroutine") = false := by kernel_rfl
theorem rfrom_ok (v : denL (leaves rfrom_i)) : rfrom v = pevCall Tryz.prog E_places rfrom_h Tryz.f61 rfrom_i rfrom_o rfrom_r v := (rfrom_eq v).trans (rfrom_okd v)
theorem rfrom_spec : SpecOK Tryz.prog 61 (mkCall 2 rfrom_i rfrom_o rfrom_r rfrom) := call_spec E_places_ok Tryz.func61 rfrom_b rfrom_n rfl rfrom_ok (LoopsOK_of rfrom_q trivial)
def E_rfrom : Env := E_places.ext 61 true true (mkCall 2 rfrom_i rfrom_o rfrom_r rfrom)
theorem E_rfrom_ok : EnvOK Tryz.prog E_rfrom := Env.ext_ok E_places_ok rfrom_spec (fun _ => mkCall_local rfl rfl) (fun _ => mkCall_in rfl rfl)

-- archipelago/ring.Plain
abbrev rplain_h : Hints := {  }
theorem rplain_okd : ∀ v, rplain_d v = pevCall Tryz.prog E_rfrom rplain_h Tryz.f97 rplain_i rplain_o rplain_r v := by
  rintro ⟨a0, ⟨⟩⟩
  kernel_rfl
theorem rplain_q : loopList (bodyOf Tryz.f97) 0 = [] := by kernel_rfl
theorem rplain_b : Tryz.f97.body.isSome = true := by kernel_rfl
theorem rplain_n : (Tryz.f97.name == "runtime.NumGoroutine") = false := by kernel_rfl
theorem rplain_ok (v : denL (leaves rplain_i)) : rplain v = pevCall Tryz.prog E_rfrom rplain_h Tryz.f97 rplain_i rplain_o rplain_r v := (rplain_eq v).trans (rplain_okd v)
theorem rplain_spec : SpecOK Tryz.prog 97 (mkCall 1 rplain_i rplain_o rplain_r rplain) := call_spec E_rfrom_ok Tryz.func97 rplain_b rplain_n rfl rplain_ok (LoopsOK_of rplain_q trivial)
def E_rplain : Env := E_rfrom.ext 97 true true (mkCall 1 rplain_i rplain_o rplain_r rplain)
theorem E_rplain_ok : EnvOK Tryz.prog E_rplain := Env.ext_ok E_rfrom_ok rplain_spec (fun _ => mkCall_local rfl rfl) (fun _ => mkCall_in rfl rfl)

-- archipelago/tour.place$1: gone through in place
theorem tplace1_b : Tryz.f66.body.isSome = true := by kernel_rfl
theorem tplace1_n : (Tryz.f66.name == "runtime.NumGoroutine") = false := by kernel_rfl
theorem tplace1_z : loops (bodyOf Tryz.f66) = 0 := by kernel_rfl

def E_tplace1_2 : Env := E_rplain.ext 66 false false (mkInline Tryz.prog E_rplain {} Tryz.f66)
theorem E_tplace1_2_ok : EnvOK Tryz.prog E_tplace1_2 := Env.ext_ok E_rplain_ok (inline_spec E_rplain_ok Tryz.func66 tplace1_b tplace1_n tplace1_z) (by simp) (by simp)

-- slices.IndexFunc[[][]int,[]int]
abbrev idxFuncL_place_h : Hints := { loop := fun n => match n with | 0 => loopBy 1 19 idxFuncL_place_i0 idxFuncL_place_o0 idxFuncL_place_s0 | _ => fun _ _ _ => none }
theorem idxFuncL_place_s0_ok : ∀ v, idxFuncL_place_s0 v = roundOf Tryz.prog E_tplace1_2 idxFuncL_place_h 1 1 19 (loopOf Tryz.f65 0) idxFuncL_place_i0 idxFuncL_place_o0 v := by
  rintro ⟨a0, a1, a2, a3, ⟨⟩⟩
  kernel_rfl
theorem idxFuncL_place_q0 : loopList (loopOf Tryz.f65 0) 1 = [] := by kernel_rfl
theorem idxFuncL_place_l0 : CodeOK Tryz.prog 1 (.loop (loopOf Tryz.f65 0)) (idxFuncL_place_h.loop 0) := loop_ok E_tplace1_2_ok (idxFuncL_place_s0_ok) (LoopsOK_of idxFuncL_place_q0 trivial)
theorem idxFuncL_place_okd : ∀ v, idxFuncL_place_d v = pevCall Tryz.prog E_tplace1_2 idxFuncL_place_h Tryz.f65 idxFuncL_place_i idxFuncL_place_o idxFuncL_place_r v := by
  rintro ⟨a0, a1, ⟨⟩⟩
  kernel_rfl
theorem idxFuncL_place_q : loopList (bodyOf Tryz.f65) 0 = [(0, loopOf Tryz.f65 0)] := by kernel_rfl
theorem idxFuncL_place_b : Tryz.f65.body.isSome = true := by kernel_rfl
theorem idxFuncL_place_n : (Tryz.f65.name == "runtime.NumGoroutine") = false := by kernel_rfl
theorem idxFuncL_place_ok (v : denL (leaves idxFuncL_place_i)) : idxFuncL_place v = pevCall Tryz.prog E_tplace1_2 idxFuncL_place_h Tryz.f65 idxFuncL_place_i idxFuncL_place_o idxFuncL_place_r v := (idxFuncL_place_eq v).trans (idxFuncL_place_okd v)
theorem idxFuncL_place_spec : SpecOK Tryz.prog 65 (mkCall 2 idxFuncL_place_i idxFuncL_place_o idxFuncL_place_r idxFuncL_place) := call_spec E_tplace1_2_ok Tryz.func65 idxFuncL_place_b idxFuncL_place_n rfl idxFuncL_place_ok (LoopsOK_of idxFuncL_place_q ⟨idxFuncL_place_l0, trivial⟩)
def E_idxFuncL_place : Env := E_tplace1_2.extC 65 1 66 (mkCall 2 idxFuncL_place_i idxFuncL_place_o idxFuncL_place_r idxFuncL_place)
theorem E_idxFuncL_place_ok : EnvOK Tryz.prog E_idxFuncL_place := Env.extC_ok E_tplace1_2_ok idxFuncL_place_spec (mkCall_in rfl rfl)

end
end Go.Pev
end
section
/- The models are what the program computes. Printed by a program. -/
namespace Go.Pev
open Go.Proofs
set_option maxRecDepth 100000
noncomputable section
-- archipelago/tour.place
abbrev tplace_h : Hints := {  }
theorem tplace_okd : ∀ v, tplace_d v = pevCall Tryz.prog E_idxFuncL_place tplace_h Tryz.f45 tplace_i tplace_o tplace_r v := by
  rintro ⟨a0, a1, ⟨⟩⟩
  kernel_rfl
theorem tplace_q : loopList (bodyOf Tryz.f45) 0 = [] := by kernel_rfl
theorem tplace_b : Tryz.f45.body.isSome = true := by kernel_rfl
theorem tplace_n : (Tryz.f45.name == "runtime.NumGoroutine") = false := by kernel_rfl
theorem tplace_ok (v : denL (leaves tplace_i)) : tplace v = pevCall Tryz.prog E_idxFuncL_place tplace_h Tryz.f45 tplace_i tplace_o tplace_r v := (tplace_eq v).trans (tplace_okd v)
theorem tplace_spec : SpecOK Tryz.prog 45 (mkCall 2 tplace_i tplace_o tplace_r tplace) := call_spec E_idxFuncL_place_ok Tryz.func45 tplace_b tplace_n rfl tplace_ok (LoopsOK_of tplace_q trivial)
def E_tplace : Env := E_idxFuncL_place.ext 45 true true (mkCall 2 tplace_i tplace_o tplace_r tplace)
theorem E_tplace_ok : EnvOK Tryz.prog E_tplace := Env.ext_ok E_idxFuncL_place_ok tplace_spec (fun _ => mkCall_local rfl rfl) (fun _ => mkCall_in rfl rfl)

-- (*archipelago/tour.walk).along: gone through in place
theorem along_b : Tryz.f86.body.isSome = true := by kernel_rfl
theorem along_n : (Tryz.f86.name == "runtime.NumGoroutine") = false := by kernel_rfl
theorem along_z : loops (bodyOf Tryz.f86) = 0 := by kernel_rfl

def E_along_3 : Env := E_tplace.ext 86 false false (mkInline Tryz.prog E_tplace {} Tryz.f86)
theorem E_along_3_ok : EnvOK Tryz.prog E_along_3 := Env.ext_ok E_tplace_ok (inline_spec E_tplace_ok Tryz.func86 along_b along_n along_z) (by simp) (by simp)

-- archipelago/tour.goes
abbrev goes_h : Hints := { loop := fun n => match n with | 0 => loopBy 0 107 goes_i0 goes_o0 goes_s0 | _ => fun _ _ _ => none, fp := fun n => match n with | 8 => [[], [], [], [], [], [], [], [], [1000003], [], [], [], [], [], [], [], [], [0], [0], [0], [], [0], [0], [0], [2, 26], [], [2, 26], [2, 26], [], [], [], [], []] | 13 => [[], [0], [0], [0], [2], [], [], [], [0], [0], [0], [6], [], [0], [0], [0], [4], [], [], []] | 3 => [[], [], [], [], [], [], [], [], [11], [], [], [], [8, 10, 12], []] | _ => [] }
theorem goes_s0_ok : ∀ v, goes_s0 v = roundOf Tryz.prog E_along_3 goes_h 1 0 107 (loopOf Tryz.f56 0) goes_i0 goes_o0 v := by
  rintro ⟨a0, a1, a2, a3, a4, a5, a6, ⟨⟩⟩
  kernel_rfl
theorem goes_q0 : loopList (loopOf Tryz.f56 0) 1 = [] := by kernel_rfl
theorem goes_l0 : CodeOK Tryz.prog 0 (.loop (loopOf Tryz.f56 0)) (goes_h.loop 0) := loop_ok E_along_3_ok (goes_s0_ok) (LoopsOK_of goes_q0 trivial)
theorem goes_okd : ∀ v, goes_d v = pevCall Tryz.prog E_along_3 goes_h Tryz.f56 goes_i goes_o goes_r v := by
  rintro ⟨a0, a1, ⟨⟩⟩
  kernel_rfl
theorem goes_q : loopList (bodyOf Tryz.f56) 0 = [(0, loopOf Tryz.f56 0)] := by kernel_rfl
theorem goes_b : Tryz.f56.body.isSome = true := by kernel_rfl
theorem goes_n : (Tryz.f56.name == "runtime.NumGoroutine") = false := by kernel_rfl
theorem goes_ok (v : denL (leaves goes_i)) : goes v = pevCall Tryz.prog E_along_3 goes_h Tryz.f56 goes_i goes_o goes_r v := (goes_eq v).trans (goes_okd v)
theorem goes_spec : SpecOK Tryz.prog 56 (mkCall 2 goes_i goes_o goes_r goes) := call_spec E_along_3_ok Tryz.func56 goes_b goes_n rfl goes_ok (LoopsOK_of goes_q ⟨goes_l0, trivial⟩)
def E_goes : Env := E_along_3.ext 56 true true (mkCall 2 goes_i goes_o goes_r goes)
theorem E_goes_ok : EnvOK Tryz.prog E_goes := Env.ext_ok E_along_3_ok goes_spec (fun _ => mkCall_local rfl rfl) (fun _ => mkCall_in rfl rfl)

-- archipelago/tour.Right
abbrev tright_h : Hints := { loop := fun n => match n with | 0 => loopBy 0 87 tright_i0 tright_o0 tright_s0 | 1 => loopBy 0 87 tright_i1 tright_o1 tright_s1 | 2 => loopBy 0 87 tright_i2 tright_o2 tright_s2 | _ => fun _ _ _ => none, fp := fun n => match n with | 8 => [[], [], [], [], [], [], [], [], [], [], [], [], [], [], [], [], [], [], [], [], [], [], [], [], [0], [0], [], [], [], []] | _ => [] }
theorem tright_s2_ok : ∀ v, tright_s2 v = roundOf Tryz.prog E_goes tright_h 3 0 87 (loopOf Tryz.f34 2) tright_i2 tright_o2 v := by
  rintro ⟨a0, a1, a2, ⟨⟩⟩
  kernel_rfl
theorem tright_q2 : loopList (loopOf Tryz.f34 2) 3 = [] := by kernel_rfl
theorem tright_l2 : CodeOK Tryz.prog 0 (.loop (loopOf Tryz.f34 2)) (tright_h.loop 2) := loop_ok E_goes_ok (tright_s2_ok) (LoopsOK_of tright_q2 trivial)
theorem tright_s1_ok : ∀ v, tright_s1 v = roundOf Tryz.prog E_goes tright_h 2 0 87 (loopOf Tryz.f34 1) tright_i1 tright_o1 v := by
  rintro ⟨a0, a1, a2, a3, a4, a5, a6, a7, a8, a9, a10, a11, a12, a13, a14, a15, a16, a17, a18, a19, a20, a21, a22, a23, a24, a25, ⟨⟩⟩
  kernel_rfl
theorem tright_q1 : loopList (loopOf Tryz.f34 1) 2 = [] := by kernel_rfl
theorem tright_l1 : CodeOK Tryz.prog 0 (.loop (loopOf Tryz.f34 1)) (tright_h.loop 1) := loop_ok E_goes_ok (tright_s1_ok) (LoopsOK_of tright_q1 trivial)
theorem tright_s0_ok : ∀ v, tright_s0 v = roundOf Tryz.prog E_goes tright_h 1 0 87 (loopOf Tryz.f34 0) tright_i0 tright_o0 v := by
  rintro ⟨a0, a1, a2, a3, a4, a5, a6, ⟨⟩⟩
  kernel_rfl
theorem tright_q0 : loopList (loopOf Tryz.f34 0) 1 = [(1, loopOf Tryz.f34 1)] := by kernel_rfl
theorem tright_l0 : CodeOK Tryz.prog 0 (.loop (loopOf Tryz.f34 0)) (tright_h.loop 0) := loop_ok E_goes_ok (tright_s0_ok) (LoopsOK_of tright_q0 ⟨tright_l1, trivial⟩)
theorem tright_okd : ∀ v, tright_d v = pevCall Tryz.prog E_goes tright_h Tryz.f34 tright_i tright_o tright_r v := by
  rintro ⟨a0, ⟨⟩⟩
  kernel_rfl
theorem tright_q : loopList (bodyOf Tryz.f34) 0 = [(0, loopOf Tryz.f34 0), (2, loopOf Tryz.f34 2)] := by kernel_rfl
theorem tright_b : Tryz.f34.body.isSome = true := by kernel_rfl
theorem tright_n : (Tryz.f34.name == "runtime.NumGoroutine") = false := by kernel_rfl
theorem tright_ok (v : denL (leaves tright_i)) : tright v = pevCall Tryz.prog E_goes tright_h Tryz.f34 tright_i tright_o tright_r v := (tright_eq v).trans (tright_okd v)
theorem tright_spec : SpecOK Tryz.prog 34 (mkCall 1 tright_i tright_o tright_r tright) := call_spec E_goes_ok Tryz.func34 tright_b tright_n rfl tright_ok (LoopsOK_of tright_q ⟨tright_l0, tright_l2, trivial⟩)
def E_tright : Env := E_goes.ext 34 true true (mkCall 1 tright_i tright_o tright_r tright)
theorem E_tright_ok : EnvOK Tryz.prog E_tright := Env.ext_ok E_goes_ok tright_spec (fun _ => mkCall_local rfl rfl) (fun _ => mkCall_in rfl rfl)

-- archipelago/tour.Of
abbrev tof_h : Hints := {  }
theorem tof_okd : ∀ v, tof_d v = pevCall Tryz.prog E_tright tof_h Tryz.f24 tof_i tof_o tof_r v := by
  rintro ⟨a0, a1, ⟨⟩⟩
  kernel_rfl
theorem tof_q : loopList (bodyOf Tryz.f24) 0 = [] := by kernel_rfl
theorem tof_b : Tryz.f24.body.isSome = true := by kernel_rfl
theorem tof_n : (Tryz.f24.name == "runtime.NumGoroutine") = false := by kernel_rfl
theorem tof_ok (v : denL (leaves tof_i)) : tof v = pevCall Tryz.prog E_tright tof_h Tryz.f24 tof_i tof_o tof_r v := (tof_eq v).trans (tof_okd v)
theorem tof_spec : SpecOK Tryz.prog 24 (mkCall 2 tof_i tof_o tof_r tof) := call_spec E_tright_ok Tryz.func24 tof_b tof_n rfl tof_ok (LoopsOK_of tof_q trivial)
def E_tof : Env := E_tright.ext 24 true true (mkCall 2 tof_i tof_o tof_r tof)
theorem E_tof_ok : EnvOK Tryz.prog E_tof := Env.ext_ok E_tright_ok tof_spec (fun _ => mkCall_local rfl rfl) (fun _ => mkCall_in rfl rfl)

-- archipelago/tour.asked
abbrev asked_h : Hints := {  }
theorem asked_okd : ∀ v, asked_d v = pevCall Tryz.prog E_tof asked_h Tryz.f60 asked_i asked_o asked_r v := by
  rintro ⟨a0, a1, a2, ⟨⟩⟩
  kernel_rfl
theorem asked_q : loopList (bodyOf Tryz.f60) 0 = [] := by kernel_rfl
theorem asked_b : Tryz.f60.body.isSome = true := by kernel_rfl
theorem asked_n : (Tryz.f60.name == "runtime.NumGoroutine") = false := by kernel_rfl
theorem asked_ok (v : denL (leaves asked_i)) : asked v = pevCall Tryz.prog E_tof asked_h Tryz.f60 asked_i asked_o asked_r v := (asked_eq v).trans (asked_okd v)
theorem asked_spec : SpecOK Tryz.prog 60 (mkCall 3 asked_i asked_o asked_r asked) := call_spec E_tof_ok Tryz.func60 asked_b asked_n rfl asked_ok (LoopsOK_of asked_q trivial)
def E_asked : Env := E_tof.ext 60 true true (mkCall 3 asked_i asked_o asked_r asked)
theorem E_asked_ok : EnvOK Tryz.prog E_asked := Env.ext_ok E_tof_ok asked_spec (fun _ => mkCall_local rfl rfl) (fun _ => mkCall_in rfl rfl)

-- cmp.isNaN[int]
abbrev nanI_h : Hints := {  }
theorem nanI_okd : ∀ v, nanI_d v = pevCall Tryz.prog E_asked nanI_h Tryz.f58 nanI_i nanI_o nanI_r v := by
  rintro ⟨a0, ⟨⟩⟩
  kernel_rfl
theorem nanI_q : loopList (bodyOf Tryz.f58) 0 = [] := by kernel_rfl
theorem nanI_b : Tryz.f58.body.isSome = true := by kernel_rfl
theorem nanI_n : (Tryz.f58.name == "runtime.NumGoroutine") = false := by kernel_rfl
theorem nanI_ok (v : denL (leaves nanI_i)) : nanI v = pevCall Tryz.prog E_asked nanI_h Tryz.f58 nanI_i nanI_o nanI_r v := (nanI_eq v).trans (nanI_okd v)
theorem nanI_spec : SpecOK Tryz.prog 58 (mkCall 1 nanI_i nanI_o nanI_r nanI) := call_spec E_asked_ok Tryz.func58 nanI_b nanI_n rfl nanI_ok (LoopsOK_of nanI_q trivial)
def E_nanI : Env := E_asked.ext 58 true true (mkCall 1 nanI_i nanI_o nanI_r nanI)
theorem E_nanI_ok : EnvOK Tryz.prog E_nanI := Env.ext_ok E_asked_ok nanI_spec (fun _ => mkCall_local rfl rfl) (fun _ => mkCall_in rfl rfl)

-- cmp.Compare[int]
abbrev compareI_h : Hints := {  }
theorem compareI_okd : ∀ v, compareI_d v = pevCall Tryz.prog E_nanI compareI_h Tryz.f39 compareI_i compareI_o compareI_r v := by
  rintro ⟨a0, a1, ⟨⟩⟩
  kernel_rfl
theorem compareI_q : loopList (bodyOf Tryz.f39) 0 = [] := by kernel_rfl
theorem compareI_b : Tryz.f39.body.isSome = true := by kernel_rfl
theorem compareI_n : (Tryz.f39.name == "runtime.NumGoroutine") = false := by kernel_rfl
theorem compareI_ok (v : denL (leaves compareI_i)) : compareI v = pevCall Tryz.prog E_nanI compareI_h Tryz.f39 compareI_i compareI_o compareI_r v := (compareI_eq v).trans (compareI_okd v)
theorem compareI_spec : SpecOK Tryz.prog 39 (mkCall 2 compareI_i compareI_o compareI_r compareI) := call_spec E_nanI_ok Tryz.func39 compareI_b compareI_n rfl compareI_ok (LoopsOK_of compareI_q trivial)
def E_compareI : Env := E_nanI.ext 39 true true (mkCall 2 compareI_i compareI_o compareI_r compareI)
theorem E_compareI_ok : EnvOK Tryz.prog E_compareI := Env.ext_ok E_nanI_ok compareI_spec (fun _ => mkCall_local rfl rfl) (fun _ => mkCall_in rfl rfl)

-- archipelago/tour.with$1
abbrev with1_h : Hints := { fp := fun n => match n with | 1 => [[], [], [], [], [], [], [], []] | _ => [] }
theorem with1_okd : ∀ v, with1_d v = pevCall Tryz.prog E_compareI with1_h Tryz.f99 with1_i with1_o with1_r v := by
  rintro ⟨a0, a1, ⟨⟩⟩
  kernel_rfl
theorem with1_q : loopList (bodyOf Tryz.f99) 0 = [] := by kernel_rfl
theorem with1_b : Tryz.f99.body.isSome = true := by kernel_rfl
theorem with1_n : (Tryz.f99.name == "runtime.NumGoroutine") = false := by kernel_rfl
theorem with1_ok (v : denL (leaves with1_i)) : with1 v = pevCall Tryz.prog E_compareI with1_h Tryz.f99 with1_i with1_o with1_r v := (with1_eq v).trans (with1_okd v)
theorem with1_spec : SpecOK Tryz.prog 99 (mkCall 2 with1_i with1_o with1_r with1) := call_spec E_compareI_ok Tryz.func99 with1_b with1_n rfl with1_ok (LoopsOK_of with1_q trivial)
def E_with1 : Env := E_compareI.ext 99 true true (mkCall 2 with1_i with1_o with1_r with1)
theorem E_with1_ok : EnvOK Tryz.prog E_with1 := Env.ext_ok E_compareI_ok with1_spec (fun _ => mkCall_local rfl rfl) (fun _ => mkCall_in rfl rfl)

-- math/bits.Len64
abbrev len64_h : Hints := {  }
theorem len64_okd : ∀ v, len64_d v = pevCall Tryz.prog E_with1 len64_h Tryz.f82 len64_i len64_o len64_r v := by
  rintro ⟨a0, ⟨⟩⟩
  kernel_rfl
theorem len64_q : loopList (bodyOf Tryz.f82) 0 = [] := by kernel_rfl
theorem len64_b : Tryz.f82.body.isSome = true := by kernel_rfl
theorem len64_n : (Tryz.f82.name == "runtime.NumGoroutine") = false := by kernel_rfl
theorem len64_ok (v : denL (leaves len64_i)) : len64 v = pevCall Tryz.prog E_with1 len64_h Tryz.f82 len64_i len64_o len64_r v := (len64_eq v).trans (len64_okd v)
theorem len64_spec : SpecOK Tryz.prog 82 (mkCall 1 len64_i len64_o len64_r len64) := call_spec E_with1_ok Tryz.func82 len64_b len64_n rfl len64_ok (LoopsOK_of len64_q trivial)
def E_len64 : Env := E_with1.ext 82 true true (mkCall 1 len64_i len64_o len64_r len64)
theorem E_len64_ok : EnvOK Tryz.prog E_len64 := Env.ext_ok E_with1_ok len64_spec (fun _ => mkCall_local rfl rfl) (fun _ => mkCall_in rfl rfl)

-- math/bits.Len
abbrev bitsLen_h : Hints := {  }
theorem bitsLen_okd : ∀ v, bitsLen_d v = pevCall Tryz.prog E_len64 bitsLen_h Tryz.f51 bitsLen_i bitsLen_o bitsLen_r v := by
  rintro ⟨a0, ⟨⟩⟩
  kernel_rfl
theorem bitsLen_q : loopList (bodyOf Tryz.f51) 0 = [] := by kernel_rfl
theorem bitsLen_b : Tryz.f51.body.isSome = true := by kernel_rfl
theorem bitsLen_n : (Tryz.f51.name == "runtime.NumGoroutine") = false := by kernel_rfl
theorem bitsLen_ok (v : denL (leaves bitsLen_i)) : bitsLen v = pevCall Tryz.prog E_len64 bitsLen_h Tryz.f51 bitsLen_i bitsLen_o bitsLen_r v := (bitsLen_eq v).trans (bitsLen_okd v)
theorem bitsLen_spec : SpecOK Tryz.prog 51 (mkCall 1 bitsLen_i bitsLen_o bitsLen_r bitsLen) := call_spec E_len64_ok Tryz.func51 bitsLen_b bitsLen_n rfl bitsLen_ok (LoopsOK_of bitsLen_q trivial)
def E_bitsLen : Env := E_len64.ext 51 true true (mkCall 1 bitsLen_i bitsLen_o bitsLen_r bitsLen)
theorem E_bitsLen_ok : EnvOK Tryz.prog E_bitsLen := Env.ext_ok E_len64_ok bitsLen_spec (fun _ => mkCall_local rfl rfl) (fun _ => mkCall_in rfl rfl)

-- (*slices.xorshift).Next
abbrev xorNext_h : Hints := { fp := fun n => match n with | 3 => [[], [0], [0], [], [0], [0], [], [], [0], [1]] | 2 => [[], [0], [0], [], [0], [0], [], [], [0], [1]] | 1 => [[], [0], [0], [], [0], [0], [], [], [0], [1]] | _ => [] }
theorem xorNext_okd : ∀ v, xorNext_d v = pevCall Tryz.prog E_bitsLen xorNext_h Tryz.f106 xorNext_i xorNext_o xorNext_r v := by
  rintro ⟨a0, ⟨⟩⟩
  kernel_rfl
theorem xorNext_q : loopList (bodyOf Tryz.f106) 0 = [] := by kernel_rfl
theorem xorNext_b : Tryz.f106.body.isSome = true := by kernel_rfl
theorem xorNext_n : (Tryz.f106.name == "runtime.NumGoroutine") = false := by kernel_rfl
theorem xorNext_ok (v : denL (leaves xorNext_i)) : xorNext v = pevCall Tryz.prog E_bitsLen xorNext_h Tryz.f106 xorNext_i xorNext_o xorNext_r v := (xorNext_eq v).trans (xorNext_okd v)
theorem xorNext_spec : SpecOK Tryz.prog 106 (mkCall 1 xorNext_i xorNext_o xorNext_r xorNext) := call_spec E_bitsLen_ok Tryz.func106 xorNext_b xorNext_n rfl xorNext_ok (LoopsOK_of xorNext_q trivial)
def E_xorNext : Env := E_bitsLen.ext 106 false true (mkCall 1 xorNext_i xorNext_o xorNext_r xorNext)
theorem E_xorNext_ok : EnvOK Tryz.prog E_xorNext := Env.ext_ok E_bitsLen_ok xorNext_spec ((by simp)) (fun _ => mkCall_in rfl rfl)

end
end Go.Pev
end
section
/- The models are what the program computes. Printed by a program. -/
namespace Go.Pev
open Go.Proofs
set_option maxRecDepth 100000
noncomputable section
-- slices.nextPowerOfTwo
abbrev nextPow_h : Hints := {  }
theorem nextPow_okd : ∀ v, nextPow_d v = pevCall Tryz.prog E_xorNext nextPow_h Tryz.f105 nextPow_i nextPow_o nextPow_r v := by
  rintro ⟨a0, ⟨⟩⟩
  kernel_rfl
theorem nextPow_q : loopList (bodyOf Tryz.f105) 0 = [] := by kernel_rfl
theorem nextPow_b : Tryz.f105.body.isSome = true := by kernel_rfl
theorem nextPow_n : (Tryz.f105.name == "runtime.NumGoroutine") = false := by kernel_rfl
theorem nextPow_ok (v : denL (leaves nextPow_i)) : nextPow v = pevCall Tryz.prog E_xorNext nextPow_h Tryz.f105 nextPow_i nextPow_o nextPow_r v := (nextPow_eq v).trans (nextPow_okd v)
theorem nextPow_spec : SpecOK Tryz.prog 105 (mkCall 1 nextPow_i nextPow_o nextPow_r nextPow) := call_spec E_xorNext_ok Tryz.func105 nextPow_b nextPow_n rfl nextPow_ok (LoopsOK_of nextPow_q trivial)
def E_nextPow : Env := E_xorNext.ext 105 true true (mkCall 1 nextPow_i nextPow_o nextPow_r nextPow)
theorem E_nextPow_ok : EnvOK Tryz.prog E_nextPow := Env.ext_ok E_xorNext_ok nextPow_spec (fun _ => mkCall_local rfl rfl) (fun _ => mkCall_in rfl rfl)

-- slices.insertionSortCmpFunc[[]int]
abbrev insL_h : Hints := { loop := fun n => match n with | 0 => loopBy 1 53 insL_i0 insL_o0 insL_s0 | 1 => loopBy 1 53 insL_i1 insL_o1 insL_s1 | _ => fun _ _ _ => none, fp := fun n => match n with | 4 => [[], [], [], [], [], [], [], [0], [0], [], [], [], [0], [0], [], [], []] | 6 => [[], [], [], [], [], [], [], [], [0], [0], [], [], [0], [0], [0], [1], [0], [1]] | _ => [] }
theorem insL_s1_ok : ∀ v, insL_s1 v = roundOf Tryz.prog E_nextPow insL_h 2 1 53 (loopOf Tryz.f116 1) insL_i1 insL_o1 v := by
  rintro ⟨a0, a1, a2, a3, a4, ⟨⟩⟩
  kernel_rfl
theorem insL_q1 : loopList (loopOf Tryz.f116 1) 2 = [] := by kernel_rfl
theorem insL_l1 : CodeOK Tryz.prog 1 (.loop (loopOf Tryz.f116 1)) (insL_h.loop 1) := loop_ok E_nextPow_ok (insL_s1_ok) (LoopsOK_of insL_q1 trivial)
theorem insL_s0_ok : ∀ v, insL_s0 v = roundOf Tryz.prog E_nextPow insL_h 1 1 53 (loopOf Tryz.f116 0) insL_i0 insL_o0 v := by
  rintro ⟨a0, a1, a2, a3, ⟨⟩⟩
  kernel_rfl
theorem insL_q0 : loopList (loopOf Tryz.f116 0) 1 = [(1, loopOf Tryz.f116 1)] := by kernel_rfl
theorem insL_l0 : CodeOK Tryz.prog 1 (.loop (loopOf Tryz.f116 0)) (insL_h.loop 0) := loop_ok E_nextPow_ok (insL_s0_ok) (LoopsOK_of insL_q0 ⟨insL_l1, trivial⟩)
theorem insL_okd : ∀ v, insL_d v = pevCall Tryz.prog E_nextPow insL_h Tryz.f116 insL_i insL_o insL_r v := by
  rintro ⟨a0, a1, a2, ⟨⟩⟩
  kernel_rfl
theorem insL_q : loopList (bodyOf Tryz.f116) 0 = [(0, loopOf Tryz.f116 0)] := by kernel_rfl
theorem insL_b : Tryz.f116.body.isSome = true := by kernel_rfl
theorem insL_n : (Tryz.f116.name == "runtime.NumGoroutine") = false := by kernel_rfl
theorem insL_ok (v : denL (leaves insL_i)) : insL v = pevCall Tryz.prog E_nextPow insL_h Tryz.f116 insL_i insL_o insL_r v := (insL_eq v).trans (insL_okd v)
theorem insL_spec : SpecOK Tryz.prog 116 (mkCall 4 insL_i insL_o insL_r insL) := call_spec E_nextPow_ok Tryz.func116 insL_b insL_n rfl insL_ok (LoopsOK_of insL_q ⟨insL_l0, trivial⟩)
def E_insL : Env := E_nextPow.extC 116 3 99 (mkCall 4 insL_i insL_o insL_r insL)
theorem E_insL_ok : EnvOK Tryz.prog E_insL := Env.extC_ok E_nextPow_ok insL_spec (mkCall_in rfl rfl)

-- slices.siftDownCmpFunc[[]int]
abbrev siftL_h : Hints := { loop := fun n => match n with | 0 => loopBy 1 82 siftL_i0 siftL_o0 siftL_s0 | _ => fun _ _ _ => none, fp := fun n => match n with | 6 => [[], [], [], [], [], [], [], [], [], [], [], [], [0], [0], [], [], [], [], [0], [0], [0], [1], [0], [1]] | 5 => [[], [], [], [], [], [0], [0], [], [], [], [], [0], [0], [], [], []] | 3 => [[], [], [], [], [], [], [], [], [], [], [0], [0], [], [], [], [], [], [0], [0], [], [], []] | _ => [] }
theorem siftL_s0_ok : ∀ v, siftL_s0 v = roundOf Tryz.prog E_insL siftL_h 1 1 82 (loopOf Tryz.f124 0) siftL_i0 siftL_o0 v := by
  rintro ⟨a0, a1, a2, a3, ⟨⟩⟩
  kernel_rfl
theorem siftL_q0 : loopList (loopOf Tryz.f124 0) 1 = [] := by kernel_rfl
theorem siftL_l0 : CodeOK Tryz.prog 1 (.loop (loopOf Tryz.f124 0)) (siftL_h.loop 0) := loop_ok E_insL_ok (siftL_s0_ok) (LoopsOK_of siftL_q0 trivial)
theorem siftL_okd : ∀ v, siftL_d v = pevCall Tryz.prog E_insL siftL_h Tryz.f124 siftL_i siftL_o siftL_r v := by
  rintro ⟨a0, a1, a2, a3, ⟨⟩⟩
  kernel_rfl
theorem siftL_q : loopList (bodyOf Tryz.f124) 0 = [(0, loopOf Tryz.f124 0)] := by kernel_rfl
theorem siftL_b : Tryz.f124.body.isSome = true := by kernel_rfl
theorem siftL_n : (Tryz.f124.name == "runtime.NumGoroutine") = false := by kernel_rfl
theorem siftL_ok (v : denL (leaves siftL_i)) : siftL v = pevCall Tryz.prog E_insL siftL_h Tryz.f124 siftL_i siftL_o siftL_r v := (siftL_eq v).trans (siftL_okd v)
theorem siftL_spec : SpecOK Tryz.prog 124 (mkCall 5 siftL_i siftL_o siftL_r siftL) := call_spec E_insL_ok Tryz.func124 siftL_b siftL_n rfl siftL_ok (LoopsOK_of siftL_q ⟨siftL_l0, trivial⟩)
def E_siftL : Env := E_insL.extC 124 4 99 (mkCall 5 siftL_i siftL_o siftL_r siftL)
theorem E_siftL_ok : EnvOK Tryz.prog E_siftL := Env.extC_ok E_insL_ok siftL_spec (mkCall_in rfl rfl)

-- slices.heapSortCmpFunc[[]int]
abbrev heapL_h : Hints := { loop := fun n => match n with | 0 => loopBy 1 60 heapL_i0 heapL_o0 heapL_s0 | 1 => loopBy 1 60 heapL_i1 heapL_o1 heapL_s1 | _ => fun _ _ _ => none, fp := fun n => match n with | 10 => [[], [], [], [], [], [], [], [], [], [], [0], [0], [], [], [0], [0], [0], [1], [0], [1]] | _ => [] }
theorem heapL_s1_ok : ∀ v, heapL_s1 v = roundOf Tryz.prog E_siftL heapL_h 2 1 60 (loopOf Tryz.f117 1) heapL_i1 heapL_o1 v := by
  rintro ⟨a0, a1, a2, a3, ⟨⟩⟩
  kernel_rfl
theorem heapL_q1 : loopList (loopOf Tryz.f117 1) 2 = [] := by kernel_rfl
theorem heapL_l1 : CodeOK Tryz.prog 1 (.loop (loopOf Tryz.f117 1)) (heapL_h.loop 1) := loop_ok E_siftL_ok (heapL_s1_ok) (LoopsOK_of heapL_q1 trivial)
theorem heapL_s0_ok : ∀ v, heapL_s0 v = roundOf Tryz.prog E_siftL heapL_h 1 1 60 (loopOf Tryz.f117 0) heapL_i0 heapL_o0 v := by
  rintro ⟨a0, a1, a2, a3, a4, ⟨⟩⟩
  kernel_rfl
theorem heapL_q0 : loopList (loopOf Tryz.f117 0) 1 = [] := by kernel_rfl
theorem heapL_l0 : CodeOK Tryz.prog 1 (.loop (loopOf Tryz.f117 0)) (heapL_h.loop 0) := loop_ok E_siftL_ok (heapL_s0_ok) (LoopsOK_of heapL_q0 trivial)
theorem heapL_okd : ∀ v, heapL_d v = pevCall Tryz.prog E_siftL heapL_h Tryz.f117 heapL_i heapL_o heapL_r v := by
  rintro ⟨a0, a1, a2, ⟨⟩⟩
  kernel_rfl
theorem heapL_q : loopList (bodyOf Tryz.f117) 0 = [(0, loopOf Tryz.f117 0), (1, loopOf Tryz.f117 1)] := by kernel_rfl
theorem heapL_b : Tryz.f117.body.isSome = true := by kernel_rfl
theorem heapL_n : (Tryz.f117.name == "runtime.NumGoroutine") = false := by kernel_rfl
theorem heapL_ok (v : denL (leaves heapL_i)) : heapL v = pevCall Tryz.prog E_siftL heapL_h Tryz.f117 heapL_i heapL_o heapL_r v := (heapL_eq v).trans (heapL_okd v)
theorem heapL_spec : SpecOK Tryz.prog 117 (mkCall 4 heapL_i heapL_o heapL_r heapL) := call_spec E_siftL_ok Tryz.func117 heapL_b heapL_n rfl heapL_ok (LoopsOK_of heapL_q ⟨heapL_l0, heapL_l1, trivial⟩)
def E_heapL : Env := E_siftL.extC 117 3 99 (mkCall 4 heapL_i heapL_o heapL_r heapL)
theorem E_heapL_ok : EnvOK Tryz.prog E_heapL := Env.extC_ok E_siftL_ok heapL_spec (mkCall_in rfl rfl)

-- slices.breakPatternsCmpFunc[[]int]
abbrev breakL_h : Hints := { loop := fun n => match n with | 0 => loopBy 1 67 breakL_i0 breakL_o0 breakL_s0 | _ => fun _ _ _ => none, fp := fun n => match n with | 10 => [[], [], [], [], [], [], [], [], [], [], [0], [0], [], [], [0], [0], [0], [1], [0], [1]] | _ => [] }
theorem breakL_s0_ok : ∀ v, breakL_s0 v = roundOf Tryz.prog E_heapL breakL_h 1 1 67 (loopOf Tryz.f118 0) breakL_i0 breakL_o0 v := by
  rintro ⟨a0, a1, a2, a3, a4, a5, ⟨⟩⟩
  kernel_rfl
theorem breakL_q0 : loopList (loopOf Tryz.f118 0) 1 = [] := by kernel_rfl
theorem breakL_l0 : CodeOK Tryz.prog 1 (.loop (loopOf Tryz.f118 0)) (breakL_h.loop 0) := loop_ok E_heapL_ok (breakL_s0_ok) (LoopsOK_of breakL_q0 trivial)
theorem breakL_okd : ∀ v, breakL_d v = pevCall Tryz.prog E_heapL breakL_h Tryz.f118 breakL_i breakL_o breakL_r v := by
  rintro ⟨a0, a1, a2, ⟨⟩⟩
  kernel_rfl
theorem breakL_q : loopList (bodyOf Tryz.f118) 0 = [(0, loopOf Tryz.f118 0)] := by kernel_rfl
theorem breakL_b : Tryz.f118.body.isSome = true := by kernel_rfl
theorem breakL_n : (Tryz.f118.name == "runtime.NumGoroutine") = false := by kernel_rfl
theorem breakL_ok (v : denL (leaves breakL_i)) : breakL v = pevCall Tryz.prog E_heapL breakL_h Tryz.f118 breakL_i breakL_o breakL_r v := (breakL_eq v).trans (breakL_okd v)
theorem breakL_spec : SpecOK Tryz.prog 118 (mkCall 4 breakL_i breakL_o breakL_r breakL) := call_spec E_heapL_ok Tryz.func118 breakL_b breakL_n rfl breakL_ok (LoopsOK_of breakL_q ⟨breakL_l0, trivial⟩)
def E_breakL : Env := E_heapL.extC 118 3 99 (mkCall 4 breakL_i breakL_o breakL_r breakL)
theorem E_breakL_ok : EnvOK Tryz.prog E_breakL := Env.extC_ok E_heapL_ok breakL_spec (mkCall_in rfl rfl)

-- slices.order2CmpFunc[[]int]
abbrev order2L_h : Hints := { fp := fun n => match n with | 1 => [[], [], [], [0], [0], [], [], [0], [0], [], []] | _ => [] }
theorem order2L_okd : ∀ v, order2L_d v = pevCall Tryz.prog E_breakL order2L_h Tryz.f127 order2L_i order2L_o order2L_r v := by
  rintro ⟨a0, a1, a2, a3, ⟨⟩⟩
  kernel_rfl
theorem order2L_q : loopList (bodyOf Tryz.f127) 0 = [] := by kernel_rfl
theorem order2L_b : Tryz.f127.body.isSome = true := by kernel_rfl
theorem order2L_n : (Tryz.f127.name == "runtime.NumGoroutine") = false := by kernel_rfl
theorem order2L_ok (v : denL (leaves order2L_i)) : order2L v = pevCall Tryz.prog E_breakL order2L_h Tryz.f127 order2L_i order2L_o order2L_r v := (order2L_eq v).trans (order2L_okd v)
theorem order2L_spec : SpecOK Tryz.prog 127 (mkCall 5 order2L_i order2L_o order2L_r order2L) := call_spec E_breakL_ok Tryz.func127 order2L_b order2L_n rfl order2L_ok (LoopsOK_of order2L_q trivial)
def E_order2L : Env := E_breakL.extC 127 4 99 (mkCall 5 order2L_i order2L_o order2L_r order2L)
theorem E_order2L_ok : EnvOK Tryz.prog E_order2L := Env.extC_ok E_breakL_ok order2L_spec (mkCall_in rfl rfl)

-- slices.medianCmpFunc[[]int]
abbrev medianL_h : Hints := {  }
theorem medianL_okd : ∀ v, medianL_d v = pevCall Tryz.prog E_order2L medianL_h Tryz.f126 medianL_i medianL_o medianL_r v := by
  rintro ⟨a0, a1, a2, a3, a4, ⟨⟩⟩
  kernel_rfl
theorem medianL_q : loopList (bodyOf Tryz.f126) 0 = [] := by kernel_rfl
theorem medianL_b : Tryz.f126.body.isSome = true := by kernel_rfl
theorem medianL_n : (Tryz.f126.name == "runtime.NumGoroutine") = false := by kernel_rfl
theorem medianL_ok (v : denL (leaves medianL_i)) : medianL v = pevCall Tryz.prog E_order2L medianL_h Tryz.f126 medianL_i medianL_o medianL_r v := (medianL_eq v).trans (medianL_okd v)
theorem medianL_spec : SpecOK Tryz.prog 126 (mkCall 6 medianL_i medianL_o medianL_r medianL) := call_spec E_order2L_ok Tryz.func126 medianL_b medianL_n rfl medianL_ok (LoopsOK_of medianL_q trivial)
def E_medianL : Env := E_order2L.extC 126 5 99 (mkCall 6 medianL_i medianL_o medianL_r medianL)
theorem E_medianL_ok : EnvOK Tryz.prog E_medianL := Env.extC_ok E_order2L_ok medianL_spec (mkCall_in rfl rfl)

-- slices.medianAdjacentCmpFunc[[]int]
abbrev medAdjL_h : Hints := {  }
theorem medAdjL_okd : ∀ v, medAdjL_d v = pevCall Tryz.prog E_medianL medAdjL_h Tryz.f125 medAdjL_i medAdjL_o medAdjL_r v := by
  rintro ⟨a0, a1, a2, ⟨⟩⟩
  kernel_rfl
theorem medAdjL_q : loopList (bodyOf Tryz.f125) 0 = [] := by kernel_rfl
theorem medAdjL_b : Tryz.f125.body.isSome = true := by kernel_rfl
theorem medAdjL_n : (Tryz.f125.name == "runtime.NumGoroutine") = false := by kernel_rfl
theorem medAdjL_ok (v : denL (leaves medAdjL_i)) : medAdjL v = pevCall Tryz.prog E_medianL medAdjL_h Tryz.f125 medAdjL_i medAdjL_o medAdjL_r v := (medAdjL_eq v).trans (medAdjL_okd v)
theorem medAdjL_spec : SpecOK Tryz.prog 125 (mkCall 4 medAdjL_i medAdjL_o medAdjL_r medAdjL) := call_spec E_medianL_ok Tryz.func125 medAdjL_b medAdjL_n rfl medAdjL_ok (LoopsOK_of medAdjL_q trivial)
def E_medAdjL : Env := E_medianL.extC 125 3 99 (mkCall 4 medAdjL_i medAdjL_o medAdjL_r medAdjL)
theorem E_medAdjL_ok : EnvOK Tryz.prog E_medAdjL := Env.extC_ok E_medianL_ok medAdjL_spec (mkCall_in rfl rfl)

-- slices.choosePivotCmpFunc[[]int]
abbrev pivotL_h : Hints := {  }
theorem pivotL_okd : ∀ v, pivotL_d v = pevCall Tryz.prog E_medAdjL pivotL_h Tryz.f119 pivotL_i pivotL_o pivotL_r v := by
  rintro ⟨a0, a1, a2, ⟨⟩⟩
  kernel_rfl
theorem pivotL_q : loopList (bodyOf Tryz.f119) 0 = [] := by kernel_rfl
theorem pivotL_b : Tryz.f119.body.isSome = true := by kernel_rfl
theorem pivotL_n : (Tryz.f119.name == "runtime.NumGoroutine") = false := by kernel_rfl
theorem pivotL_ok (v : denL (leaves pivotL_i)) : pivotL v = pevCall Tryz.prog E_medAdjL pivotL_h Tryz.f119 pivotL_i pivotL_o pivotL_r v := (pivotL_eq v).trans (pivotL_okd v)
theorem pivotL_spec : SpecOK Tryz.prog 119 (mkCall 4 pivotL_i pivotL_o pivotL_r pivotL) := call_spec E_medAdjL_ok Tryz.func119 pivotL_b pivotL_n rfl pivotL_ok (LoopsOK_of pivotL_q trivial)
def E_pivotL : Env := E_medAdjL.extC 119 3 99 (mkCall 4 pivotL_i pivotL_o pivotL_r pivotL)
theorem E_pivotL_ok : EnvOK Tryz.prog E_pivotL := Env.extC_ok E_medAdjL_ok pivotL_spec (mkCall_in rfl rfl)

-- slices.reverseRangeCmpFunc[[]int]
abbrev revL_h : Hints := { loop := fun n => match n with | 0 => loopBy 1 34 revL_i0 revL_o0 revL_s0 | _ => fun _ _ _ => none, fp := fun n => match n with | 3 => [[], [], [], [], [], [], [0], [0], [], [], [0], [0], [0], [1], [0], [1]] | _ => [] }
theorem revL_s0_ok : ∀ v, revL_s0 v = roundOf Tryz.prog E_pivotL revL_h 1 1 34 (loopOf Tryz.f120 0) revL_i0 revL_o0 v := by
  rintro ⟨a0, a1, a2, ⟨⟩⟩
  kernel_rfl
theorem revL_q0 : loopList (loopOf Tryz.f120 0) 1 = [] := by kernel_rfl
theorem revL_l0 : CodeOK Tryz.prog 1 (.loop (loopOf Tryz.f120 0)) (revL_h.loop 0) := loop_ok E_pivotL_ok (revL_s0_ok) (LoopsOK_of revL_q0 trivial)
theorem revL_okd : ∀ v, revL_d v = pevCall Tryz.prog E_pivotL revL_h Tryz.f120 revL_i revL_o revL_r v := by
  rintro ⟨a0, a1, a2, ⟨⟩⟩
  kernel_rfl
theorem revL_q : loopList (bodyOf Tryz.f120) 0 = [(0, loopOf Tryz.f120 0)] := by kernel_rfl
theorem revL_b : Tryz.f120.body.isSome = true := by kernel_rfl
theorem revL_n : (Tryz.f120.name == "runtime.NumGoroutine") = false := by kernel_rfl
theorem revL_ok (v : denL (leaves revL_i)) : revL v = pevCall Tryz.prog E_pivotL revL_h Tryz.f120 revL_i revL_o revL_r v := (revL_eq v).trans (revL_okd v)
theorem revL_spec : SpecOK Tryz.prog 120 (mkCall 4 revL_i revL_o revL_r revL) := call_spec E_pivotL_ok Tryz.func120 revL_b revL_n rfl revL_ok (LoopsOK_of revL_q ⟨revL_l0, trivial⟩)
def E_revL : Env := E_pivotL.extC 120 3 99 (mkCall 4 revL_i revL_o revL_r revL)
theorem E_revL_ok : EnvOK Tryz.prog E_revL := Env.extC_ok E_pivotL_ok revL_spec (mkCall_in rfl rfl)

-- slices.partialInsertionSortCmpFunc[[]int]
abbrev partInsL_h : Hints := { loop := fun n => match n with | 0 => loopBy 1 141 partInsL_i0 partInsL_o0 partInsL_s0 | 1 => loopBy 1 141 partInsL_i1 partInsL_o1 partInsL_s1 | 2 => loopBy 1 141 partInsL_i2 partInsL_o2 partInsL_s2 | 3 => loopBy 1 141 partInsL_i3 partInsL_o3 partInsL_s3 | _ => fun _ _ _ => none, fp := fun n => match n with | 11 => [[], [], [], [], [], [], [], [], [0], [0], [], [], [0], [0], [0], [1], [0], [1]] | 5 => [[], [], [], [], [], [], [], [0], [0], [], [], [], [0], [0], [], [], [], []] | 17 => [[], [], [], [], [], [], [], [], [0], [0], [], [], [0], [0], [0], [1], [0], [1]] | 16 => [[], [], [], [0], [0], [], [], [], [0], [0], [], [], []] | 23 => [[], [], [], [], [], [], [], [], [0], [0], [], [], [0], [0], [0], [1], [0], [1]] | 22 => [[], [], [], [0], [0], [], [], [], [0], [0], [], [], []] | _ => [] }
theorem partInsL_s3_ok : ∀ v, partInsL_s3 v = roundOf Tryz.prog E_revL partInsL_h 4 1 141 (loopOf Tryz.f121 3) partInsL_i3 partInsL_o3 v := by
  rintro ⟨a0, a1, a2, a3, a4, a5, ⟨⟩⟩
  kernel_rfl
theorem partInsL_q3 : loopList (loopOf Tryz.f121 3) 4 = [] := by kernel_rfl
theorem partInsL_l3 : CodeOK Tryz.prog 1 (.loop (loopOf Tryz.f121 3)) (partInsL_h.loop 3) := loop_ok E_revL_ok (partInsL_s3_ok) (LoopsOK_of partInsL_q3 trivial)
theorem partInsL_s2_ok : ∀ v, partInsL_s2 v = roundOf Tryz.prog E_revL partInsL_h 3 1 141 (loopOf Tryz.f121 2) partInsL_i2 partInsL_o2 v := by
  rintro ⟨a0, a1, a2, a3, a4, a5, ⟨⟩⟩
  kernel_rfl
theorem partInsL_q2 : loopList (loopOf Tryz.f121 2) 3 = [] := by kernel_rfl
theorem partInsL_l2 : CodeOK Tryz.prog 1 (.loop (loopOf Tryz.f121 2)) (partInsL_h.loop 2) := loop_ok E_revL_ok (partInsL_s2_ok) (LoopsOK_of partInsL_q2 trivial)
theorem partInsL_s1_ok : ∀ v, partInsL_s1 v = roundOf Tryz.prog E_revL partInsL_h 2 1 141 (loopOf Tryz.f121 1) partInsL_i1 partInsL_o1 v := by
  rintro ⟨a0, a1, a2, a3, a4, ⟨⟩⟩
  kernel_rfl
theorem partInsL_q1 : loopList (loopOf Tryz.f121 1) 2 = [] := by kernel_rfl
theorem partInsL_l1 : CodeOK Tryz.prog 1 (.loop (loopOf Tryz.f121 1)) (partInsL_h.loop 1) := loop_ok E_revL_ok (partInsL_s1_ok) (LoopsOK_of partInsL_q1 trivial)
theorem partInsL_s0_ok : ∀ v, partInsL_s0 v = roundOf Tryz.prog E_revL partInsL_h 1 1 141 (loopOf Tryz.f121 0) partInsL_i0 partInsL_o0 v := by
  rintro ⟨a0, a1, a2, a3, a4, ⟨⟩⟩
  kernel_rfl
theorem partInsL_q0 : loopList (loopOf Tryz.f121 0) 1 = [(1, loopOf Tryz.f121 1), (2, loopOf Tryz.f121 2), (3, loopOf Tryz.f121 3)] := by kernel_rfl
theorem partInsL_l0 : CodeOK Tryz.prog 1 (.loop (loopOf Tryz.f121 0)) (partInsL_h.loop 0) := loop_ok E_revL_ok (partInsL_s0_ok) (LoopsOK_of partInsL_q0 ⟨partInsL_l1, partInsL_l2, partInsL_l3, trivial⟩)
theorem partInsL_okd : ∀ v, partInsL_d v = pevCall Tryz.prog E_revL partInsL_h Tryz.f121 partInsL_i partInsL_o partInsL_r v := by
  rintro ⟨a0, a1, a2, ⟨⟩⟩
  kernel_rfl
theorem partInsL_q : loopList (bodyOf Tryz.f121) 0 = [(0, loopOf Tryz.f121 0)] := by kernel_rfl
theorem partInsL_b : Tryz.f121.body.isSome = true := by kernel_rfl
theorem partInsL_n : (Tryz.f121.name == "runtime.NumGoroutine") = false := by kernel_rfl
theorem partInsL_ok (v : denL (leaves partInsL_i)) : partInsL v = pevCall Tryz.prog E_revL partInsL_h Tryz.f121 partInsL_i partInsL_o partInsL_r v := (partInsL_eq v).trans (partInsL_okd v)
theorem partInsL_spec : SpecOK Tryz.prog 121 (mkCall 4 partInsL_i partInsL_o partInsL_r partInsL) := call_spec E_revL_ok Tryz.func121 partInsL_b partInsL_n rfl partInsL_ok (LoopsOK_of partInsL_q ⟨partInsL_l0, trivial⟩)
def E_partInsL : Env := E_revL.extC 121 3 99 (mkCall 4 partInsL_i partInsL_o partInsL_r partInsL)
theorem E_partInsL_ok : EnvOK Tryz.prog E_partInsL := Env.extC_ok E_revL_ok partInsL_spec (mkCall_in rfl rfl)

-- slices.partitionEqualCmpFunc[[]int]
abbrev partEqL_h : Hints := { loop := fun n => match n with | 0 => loopBy 1 90 partEqL_i0 partEqL_o0 partEqL_s0 | 1 => loopBy 1 90 partEqL_i1 partEqL_o1 partEqL_s1 | 2 => loopBy 1 90 partEqL_i2 partEqL_o2 partEqL_s2 | _ => fun _ _ _ => none, fp := fun n => match n with | 8 => [[], [], [], [], [], [], [0], [0], [], [], [0], [0], [0], [1], [0], [1]] | 3 => [[], [], [], [], [], [], [], [0], [0], [], [], [0], [0], [], [], [], []] | 5 => [[], [], [], [], [], [], [], [0], [0], [], [], [0], [0], [], [], []] | 1 => [[], [], [], [], [], [], [0], [0], [], [], [0], [0], [0], [1], [0], [1]] | _ => [] }
theorem partEqL_s2_ok : ∀ v, partEqL_s2 v = roundOf Tryz.prog E_partInsL partEqL_h 3 1 90 (loopOf Tryz.f122 2) partEqL_i2 partEqL_o2 v := by
  rintro ⟨a0, a1, a2, a3, ⟨⟩⟩
  kernel_rfl
theorem partEqL_q2 : loopList (loopOf Tryz.f122 2) 3 = [] := by kernel_rfl
theorem partEqL_l2 : CodeOK Tryz.prog 1 (.loop (loopOf Tryz.f122 2)) (partEqL_h.loop 2) := loop_ok E_partInsL_ok (partEqL_s2_ok) (LoopsOK_of partEqL_q2 trivial)
theorem partEqL_s1_ok : ∀ v, partEqL_s1 v = roundOf Tryz.prog E_partInsL partEqL_h 2 1 90 (loopOf Tryz.f122 1) partEqL_i1 partEqL_o1 v := by
  rintro ⟨a0, a1, a2, a3, ⟨⟩⟩
  kernel_rfl
theorem partEqL_q1 : loopList (loopOf Tryz.f122 1) 2 = [] := by kernel_rfl
theorem partEqL_l1 : CodeOK Tryz.prog 1 (.loop (loopOf Tryz.f122 1)) (partEqL_h.loop 1) := loop_ok E_partInsL_ok (partEqL_s1_ok) (LoopsOK_of partEqL_q1 trivial)
theorem partEqL_s0_ok : ∀ v, partEqL_s0 v = roundOf Tryz.prog E_partInsL partEqL_h 1 1 90 (loopOf Tryz.f122 0) partEqL_i0 partEqL_o0 v := by
  rintro ⟨a0, a1, a2, a3, ⟨⟩⟩
  kernel_rfl
theorem partEqL_q0 : loopList (loopOf Tryz.f122 0) 1 = [(1, loopOf Tryz.f122 1), (2, loopOf Tryz.f122 2)] := by kernel_rfl
theorem partEqL_l0 : CodeOK Tryz.prog 1 (.loop (loopOf Tryz.f122 0)) (partEqL_h.loop 0) := loop_ok E_partInsL_ok (partEqL_s0_ok) (LoopsOK_of partEqL_q0 ⟨partEqL_l1, partEqL_l2, trivial⟩)
theorem partEqL_okd : ∀ v, partEqL_d v = pevCall Tryz.prog E_partInsL partEqL_h Tryz.f122 partEqL_i partEqL_o partEqL_r v := by
  rintro ⟨a0, a1, a2, a3, ⟨⟩⟩
  kernel_rfl
theorem partEqL_q : loopList (bodyOf Tryz.f122) 0 = [(0, loopOf Tryz.f122 0)] := by kernel_rfl
theorem partEqL_b : Tryz.f122.body.isSome = true := by kernel_rfl
theorem partEqL_n : (Tryz.f122.name == "runtime.NumGoroutine") = false := by kernel_rfl
theorem partEqL_ok (v : denL (leaves partEqL_i)) : partEqL v = pevCall Tryz.prog E_partInsL partEqL_h Tryz.f122 partEqL_i partEqL_o partEqL_r v := (partEqL_eq v).trans (partEqL_okd v)
theorem partEqL_spec : SpecOK Tryz.prog 122 (mkCall 5 partEqL_i partEqL_o partEqL_r partEqL) := call_spec E_partInsL_ok Tryz.func122 partEqL_b partEqL_n rfl partEqL_ok (LoopsOK_of partEqL_q ⟨partEqL_l0, trivial⟩)
def E_partEqL : Env := E_partInsL.extC 122 4 99 (mkCall 5 partEqL_i partEqL_o partEqL_r partEqL)
theorem E_partEqL_ok : EnvOK Tryz.prog E_partEqL := Env.extC_ok E_partInsL_ok partEqL_spec (mkCall_in rfl rfl)

end
end Go.Pev
end
