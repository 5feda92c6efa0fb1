/- A part of the proofs of this seat: S12e S12f L12a L12b L12c L12d L12e L12f L12g L12h PevTake PevClaim L12i L12j L12k L12l G12P1 G12P2 G12P3 G12P4. -/
import Derived.Test.YtacapnnkndaonaaPe977264ce8
import Derived.ProofKit
import Derived.ChangeArms
import Derived.ReadAgain
import Derived.Deep.Slices
import Derived.OpenShut
import Derived.KernelRfl
import Derived.Test.YtacapnnkndaonaaProg
set_option linter.unusedVariables false
set_option linter.unusedSimpArgs false
set_option linter.unusedSectionVars false
section
namespace Go.Pev.Pl
open Go.Sort
set_option maxRecDepth 100000
def tab64 : List Int := [(0 : Int), (1 : Int), (2 : Int), (2 : Int), (3 : Int), (3 : Int), (3 : Int), (3 : Int), (4 : Int), (4 : Int), (4 : Int), (4 : Int), (4 : Int), (4 : Int), (4 : Int), (4 : Int), (5 : Int), (5 : Int), (5 : Int), (5 : Int), (5 : Int), (5 : Int), (5 : Int), (5 : Int), (5 : Int), (5 : Int), (5 : Int), (5 : Int), (5 : Int), (5 : Int), (5 : Int), (5 : Int), (6 : Int), (6 : Int), (6 : Int), (6 : Int), (6 : Int), (6 : Int), (6 : Int), (6 : Int), (6 : Int), (6 : Int), (6 : Int), (6 : Int), (6 : Int), (6 : Int), (6 : Int), (6 : Int), (6 : Int), (6 : Int), (6 : Int), (6 : Int), (6 : Int), (6 : Int), (6 : Int), (6 : Int), (6 : Int), (6 : Int), (6 : Int), (6 : Int), (6 : Int), (6 : Int), (6 : Int), (6 : Int), (7 : Int), (7 : Int), (7 : Int), (7 : Int), (7 : Int), (7 : Int), (7 : Int), (7 : Int), (7 : Int), (7 : Int), (7 : Int), (7 : Int), (7 : Int), (7 : Int), (7 : Int), (7 : Int), (7 : Int), (7 : Int), (7 : Int), (7 : Int), (7 : Int), (7 : Int), (7 : Int), (7 : Int), (7 : Int), (7 : Int), (7 : Int), (7 : Int), (7 : Int), (7 : Int), (7 : Int), (7 : Int), (7 : Int), (7 : Int), (7 : Int), (7 : Int), (7 : Int), (7 : Int), (7 : Int), (7 : Int), (7 : Int), (7 : Int), (7 : Int), (7 : Int), (7 : Int), (7 : Int), (7 : Int), (7 : Int), (7 : Int), (7 : Int), (7 : Int), (7 : Int), (7 : Int), (7 : Int), (7 : Int), (7 : Int), (7 : Int), (7 : Int), (7 : Int), (7 : Int), (7 : Int), (7 : Int), (7 : Int), (7 : Int), (8 : Int), (8 : Int), (8 : Int), (8 : Int), (8 : Int), (8 : Int), (8 : Int), (8 : Int), (8 : Int), (8 : Int), (8 : Int), (8 : Int), (8 : Int), (8 : Int), (8 : Int), (8 : Int), (8 : Int), (8 : Int), (8 : Int), (8 : Int), (8 : Int), (8 : Int), (8 : Int), (8 : Int), (8 : Int), (8 : Int), (8 : Int), (8 : Int), (8 : Int), (8 : Int), (8 : Int), (8 : Int), (8 : Int), (8 : Int), (8 : Int), (8 : Int), (8 : Int), (8 : Int), (8 : Int), (8 : Int), (8 : Int), (8 : Int), (8 : Int), (8 : Int), (8 : Int), (8 : Int), (8 : Int), (8 : Int), (8 : Int), (8 : Int), (8 : Int), (8 : Int), (8 : Int), (8 : Int), (8 : Int), (8 : Int), (8 : Int), (8 : Int), (8 : Int), (8 : Int), (8 : Int), (8 : Int), (8 : Int), (8 : Int), (8 : Int), (8 : Int), (8 : Int), (8 : Int), (8 : Int), (8 : Int), (8 : Int), (8 : Int), (8 : Int), (8 : Int), (8 : Int), (8 : Int), (8 : Int), (8 : Int), (8 : Int), (8 : Int), (8 : Int), (8 : Int), (8 : Int), (8 : Int), (8 : Int), (8 : Int), (8 : Int), (8 : Int), (8 : Int), (8 : Int), (8 : Int), (8 : Int), (8 : Int), (8 : Int), (8 : Int), (8 : Int), (8 : Int), (8 : Int), (8 : Int), (8 : Int), (8 : Int), (8 : Int), (8 : Int), (8 : Int), (8 : Int), (8 : Int), (8 : Int), (8 : Int), (8 : Int), (8 : Int), (8 : Int), (8 : Int), (8 : Int), (8 : Int), (8 : Int), (8 : Int), (8 : Int), (8 : Int), (8 : Int), (8 : Int), (8 : Int), (8 : Int), (8 : Int), (8 : Int), (8 : Int), (8 : Int), (8 : Int), (8 : Int)]
theorem tab64_ok : (List.range 256).all (fun k => match tab64[k]? with
    | some v => decide (0 ≤ v) && (decide (v ≤ 8) && decide (2 ^ v.toNat ≤ max 1 (2 * k)))
    | none => false) = true := by decide +kernel
theorem tab64_at {k : Nat} (h : k < 256) : ∃ v : Nat, idx tab64 (k : Int) = some (v : Int) ∧ v ≤ 8 ∧ 2 ^ v ≤ max 1 (2 * k) := by
  have := List.all_eq_true.1 tab64_ok k (List.mem_range.2 h)
  rw [idx_eq, idxR, if_neg (by omega), Int.toNat_natCast]
  cases e : tab64[k]? with
  | none => rw [e] at this; cases this
  | some v =>
    rw [e] at this
    simp only [Bool.and_eq_true, decide_eq_true_eq] at this
    exact ⟨v.toNat, by rw [Int.toNat_of_nonneg this.1], by omega, this.2.2⟩
theorem shr_nat (n s : Nat) (h : s ≤ 64) : shr? .u64 (n : Int) (s : Int) = some ((n / 2 ^ s : Nat) : Int) := by
  rw [shr_eq, shrR, if_neg (by omega), Int.toNat_natCast, show min s (IntKind.bits .u64) = s from Nat.min_eq_left h, Int.fdiv_eq_ediv_of_nonneg _ (Int.pow_nonneg (by omega))]
  rfl
theorem u8_in {n : Int} (h : 0 ≤ n ∧ n ≤ 255) : IntKind.wrap .u8 n = n := IntWalk.u8_in n h
theorem u64_in {n : Int} (h : 0 ≤ n ∧ n ≤ 18446744073709551615) : IntKind.wrap .u64 n = n := IntWalk.u64_in n h
theorem len64_val (n : Nat) (hn : n < 4294967296) : ∃ v : Nat, len64 ((n : Int), ()) = some ((v : Int), ()) ∧ v ≤ 32 ∧ 2 ^ v ≤ max 1 (2 * n) := by
  rw [len64_eq, len64_d, ile_eq, decide_eq_false (by omega)]
  simp only [ile_eq]
  have key : ∀ (s m : Nat), s ≤ 24 → m < 256 → m * 2 ^ s ≤ n → (s = 0 ∨ 1 ≤ m) → ∃ v : Nat, idx tab64 (m : Int) = some (v : Int) ∧ v ≤ 8 ∧ 2 ^ (s + v) ≤ max 1 (2 * n) := by
    intro s m hs hm hle h1
    obtain ⟨v, e, h8, hp⟩ := tab64_at hm
    refine ⟨v, e, h8, ?_⟩
    rcases h1 with rfl | h1
    · rw [Nat.zero_add]; simp at hle; omega
    · have h2 : 2 ^ v ≤ 2 * m := by omega
      have h3 : 2 ^ (s + v) ≤ 2 * (m * 2 ^ s) := by
        rw [Nat.pow_add, Nat.mul_comm (2 ^ s), ← Nat.mul_assoc]
        exact Nat.mul_le_mul_right _ h2
      omega
  by_cases h1 : 65536 ≤ n
  · rw [decide_eq_true (show (65536 : Int) ≤ (n : Int) by omega)]
    have e16 : shr? .u64 (n : Int) 16 = some ((n / 65536 : Nat) : Int) := shr_nat n 16 (by omega)
    simp only [e16]
    by_cases h2 : 256 ≤ n / 65536
    · rw [decide_eq_true (show (256 : Int) ≤ ((n / 65536 : Nat) : Int) by omega)]
      have e8 : shr? .u64 ((n / 65536 : Nat) : Int) 8 = some ((n / 65536 / 256 : Nat) : Int) := shr_nat _ 8 (by omega)
      obtain ⟨v, e, h8, hp⟩ := key 24 (n / 65536 / 256) (by omega) (by omega) (by omega) (by omega)
      rw [tab64] at e
      simp only [e8]
      rw [u8_in (by omega)]
      simp only [e]
      refine ⟨24 + v, ?_, by omega, hp⟩
      rw [wrap_in (n := 0 + 16) (by omega), wrap_in (n := (0 : Int) + 16 + 8) (by omega), wrap_in (n := (v : Int)) (by omega), wrap_in (by omega)]
      congr 2
    · rw [decide_eq_false (show ¬ (256 : Int) ≤ ((n / 65536 : Nat) : Int) by omega)]
      obtain ⟨v, e, h8, hp⟩ := key 16 (n / 65536) (by omega) (by omega) (by omega) (by omega)
      rw [tab64] at e
      simp only []
      rw [u8_in (by omega)]
      simp only [e]
      refine ⟨16 + v, ?_, by omega, hp⟩
      rw [wrap_in (n := 0 + 16) (by omega), wrap_in (n := (v : Int)) (by omega), wrap_in (by omega)]
      congr 2
  · rw [decide_eq_false (show ¬ (65536 : Int) ≤ (n : Int) by omega)]
    by_cases h2 : 256 ≤ n
    · have e8 : shr? .u64 (n : Int) 8 = some ((n / 256 : Nat) : Int) := shr_nat n 8 (by omega)
      obtain ⟨v, e, h8, hp⟩ := key 8 (n / 256) (by omega) (by omega) (by omega) (by omega)
      rw [tab64] at e
      simp only []
      rw [decide_eq_true (show (256 : Int) ≤ (n : Int) by omega)]
      simp only [e8]
      rw [u8_in (by omega)]
      simp only [e]
      refine ⟨8 + v, ?_, by omega, hp⟩
      rw [wrap_in (n := 0 + 8) (by omega), wrap_in (n := (v : Int)) (by omega), wrap_in (by omega)]
      congr 2
    · obtain ⟨v, e, h8, hp⟩ := key 0 n (by omega) (by omega) (by omega) (by omega)
      rw [tab64] at e
      simp only []
      rw [decide_eq_false (show ¬ (256 : Int) ≤ (n : Int) by omega)]
      simp only []
      rw [u8_in (by omega)]
      simp only [e]
      refine ⟨0 + v, ?_, by omega, hp⟩
      rw [wrap_in (n := (v : Int)) (by omega), wrap_in (by omega)]
      congr 2

theorem bitsLen_val (n : Nat) (hn : n < 4294967296) : ∃ v : Nat, bitsLen ((n : Int), ()) = some ((v : Int), ()) ∧ v ≤ 32 ∧ 2 ^ v ≤ max 1 (2 * n) := by
  rw [bitsLen_eq, bitsLen_d]
  obtain ⟨v, e, h⟩ := len64_val n hn
  simp only [e]
  exact ⟨v, rfl, h⟩

theorem nextPow_val (n : Nat) (h1 : 1 ≤ n) (hn : n < 4294967296) : ∃ m : Nat, nextPow ((n : Int), ()) = some ((m : Int), ()) ∧ 1 ≤ m ∧ m ≤ 2 * n := by
  rw [nextPow_eq, nextPow_d, u64_in (by omega)]
  obtain ⟨v, e, h32, hp⟩ := bitsLen_val n hn
  simp only [e]
  have e2 : shl? .u64 (1 : Int) (v : Int) = some ((2 ^ v : Nat) : Int) := by
    rw [shl_eq, shlR, if_neg (by omega), Int.toNat_natCast, show min v (IntKind.bits .u64) = v from Nat.min_eq_left (by show v ≤ 64; omega), Int.one_mul]
    have : 2 ^ v ≤ 2 ^ 32 := Nat.pow_le_pow_right (by omega) h32
    have h1 : 1 ≤ 2 ^ v := Nat.one_le_two_pow
    have e : ((2 : Int) ^ v) = ((2 ^ v : Nat) : Int) := by simp
    rw [e, u64_in (by constructor <;> omega)]
  simp only [e2]
  exact ⟨2 ^ v, rfl, Nat.one_le_two_pow, by omega⟩

theorem xorNext_val (r : Int) : ∃ r' y, xorNext (r, ()) = some (r', y, ()) := by
  rw [xorNext_eq, xorNext_d, shl_eq, shlR, if_neg (by omega)]
  simp only []
  rw [shr_eq, shrR, if_neg (by omega)]
  simp only []
  rw [shl_eq, shlR, if_neg (by omega)]
  exact ⟨_, _, rfl⟩

theorem other_le (y : Int) (m : Nat) (h1 : 1 ≤ m) (hm : m < 18446744073709551616) : ∃ o : Nat, IntKind.wrap .u64 ((BitVec.ofInt (IntKind.bits .u64) y &&& BitVec.ofInt (IntKind.bits .u64) (IntKind.wrap .u64 ((m : Int) - 1))).toNat) = (o : Int) ∧ o < m := by
  rw [u64_in (n := (m : Int) - 1) (by omega), show (m : Int) - 1 = ((m - 1 : Nat) : Int) by omega, BitVec.toNat_and]
  have h2 : (BitVec.ofInt (IntKind.bits .u64) ((m - 1 : Nat) : Int)).toNat = m - 1 := by
    rw [BitVec.ofInt_natCast, BitVec.toNat_ofNat]
    exact Nat.mod_eq_of_lt (by show m - 1 < 18446744073709551616; omega)
  rw [h2]
  have h3 : (BitVec.ofInt (IntKind.bits .u64) y).toNat &&& (m - 1) ≤ m - 1 := Nat.and_le_right
  exact ⟨_, u64_in (by omega), by omega⟩

theorem breakW_loop (a b : Nat) (m : Nat) (h8 : a + 8 ≤ b) (hm1 : 1 ≤ m) (hm : m ≤ 2 * (b - a)) : ∀ (k t : Nat) (d : Array Int) (r : Int) (n : Nat), t + k = 3 → b ≤ d.size → d.size < 4294967296 → k < n →
    ∃ d' : Array Int, iterO breakW_s0 n (d.toList, (a : Int), ((b - a : Nat) : Int), r, (m : Int), ((a + (b - a) / 4 * 2 - 1 + t : Nat) : Int), ()) = some (.inl (d'.toList, ())) ∧ PermIn a b d d' := by
  intro k
  induction k with
  | zero =>
    intro t d r n hk hb hs hn
    obtain ⟨n, rfl⟩ : ∃ k, n = k + 1 := ⟨n - 1, by omega⟩
    rw [iterO, breakW_s0]
    simp (disch := omega) only [quo_4, wrap_mul2, wrap_add, wrap_add1, ile_nat]
    rw [decide_eq_false (by omega)]
    exact ⟨d, rfl, permIn_refl d a b⟩
  | succ k ih =>
    intro t d r n hk hb hs hn
    obtain ⟨n, rfl⟩ : ∃ k, n = k + 1 := ⟨n - 1, by omega⟩
    rw [iterO, breakW_s0]
    simp (disch := omega) only [quo_4, wrap_mul2, wrap_add, wrap_add1, ile_nat]
    rw [decide_eq_true (show a + (b - a) / 4 * 2 - 1 + t ≤ a + (b - a) / 4 * 2 + 1 by omega)]
    obtain ⟨r', y, e⟩ := xorNext_val r
    obtain ⟨o, e2, ho⟩ := other_le y m hm1 (by omega)
    simp only [e, e2]
    rw [wrap_in (n := (o : Int)) (by omega)]
    simp only [ile_nat]
    have i0 : a + (b - a) / 4 * 2 - 1 + t < d.size := by omega
    have fin : ∀ q : Nat, a ≤ q → q < b → ∃ d' : Array Int, iterO breakW_s0 n ((swp d (a + (b - a) / 4 * 2 - 1 + t) q).toList, (a : Int), ((b - a : Nat) : Int), r', (m : Int), ((a + (b - a) / 4 * 2 - 1 + t + 1 : Nat) : Int), ()) = some (.inl (d'.toList, ())) ∧ PermIn a b d d' := by
      intro q hq1 hq2
      obtain ⟨d', e', hp⟩ := ih (t + 1) (swp d (a + (b - a) / 4 * 2 - 1 + t) q) r' n (by omega) (by rw [size_swp]; omega) (by rw [size_swp]; omega) (by omega)
      exact ⟨d', e', permIn_trans _ _ _ a b (swp_permIn d a b _ q (by omega) (by omega) hq1 hq2 hb) hp⟩
    by_cases h : b - a ≤ o
    · have i1 : a + (o - (b - a)) < d.size := by omega
      simp (disch := omega) only [h, decide_true, wrap_sub, wrap_add, wrap_add1, idx_at i0, idx_at i1, (swapW i0 i1).1, (swapW i0 i1).2]
      exact fin _ (by omega) (by omega)
    · have i1 : a + o < d.size := by omega
      simp (disch := omega) only [h, decide_false, wrap_sub, wrap_add, wrap_add1, idx_at i0, idx_at i1, (swapW i0 i1).1, (swapW i0 i1).2]
      exact fin _ (by omega) (by omega)

theorem breakW_val (d : Array Int) (a b : Nat) (hab : a ≤ b) (hb : b ≤ d.size) (hs : d.size < 4294967296) :
    ∃ d' : Array Int, breakW (d.toList, (a : Int), (b : Int), ()) = some (d'.toList, ()) ∧ PermIn a b d d' := by
  have hm : 4294967296 < many := by simp only [many]; omega
  rw [breakW_eq, breakW_d]
  simp (disch := omega) only [wrap_sub, ile_eq]
  by_cases h : 8 ≤ b - a
  · rw [decide_eq_true (show (8 : Int) ≤ ((b - a : Nat) : Int) by omega)]
    obtain ⟨m, e, h1, h2⟩ := nextPow_val (b - a) (by omega) (by omega)
    simp only [e]
    rw [u64_in (n := ((b - a : Nat) : Int)) (by omega)]
    simp (disch := omega) only [quo_4, wrap_mul2, wrap_add, wrap_sub1, iterL_eq]
    obtain ⟨d', e2, hp⟩ := breakW_loop a b m (by omega) h1 h2 3 0 d ((b - a : Nat) : Int) many rfl hb hs (by omega)
    rw [Nat.add_zero] at e2
    simp only [e2]
    exact ⟨d', rfl, hp⟩
  · rw [decide_eq_false (show ¬ (8 : Int) ≤ ((b - a : Nat) : Int) by omega)]
    exact ⟨d, rfl, permIn_refl d a b⟩
end Go.Pev.Pl
end
section
namespace Go.Pev.Pl
open Go.Sort
abbrev PdqSt := List Int × Int × Int × Int × Bool × Bool × Unit
abbrev PdqOutT := PdqSt ⊕ (List Int × Unit) ⊕ Unit
noncomputable section
def pdqTail (self : (List Int × Int × Int × Int × Unit) → Option ((List Int × Unit))) (y7 : List Int) (a1 a2 p l : Int) (a4 a5 : Bool) : Option PdqOutT :=
  match (ilt (0 : Int) a1) with
  | true => match idx y7 (IntKind.wrap .i64 (a1 - (1 : Int))) with
    | none => none
    | some x9 => match idx y7 p with
      | none => none
      | some x10 => match lessW ((dget y7 (dnat (IntKind.wrap .i64 (a1 - (1 : Int)))) (0 : Int)), (dget y7 (dnat p) (0 : Int)), ()) with
        | none => none
        | some (y11, _) => match (!y11) with
          | true => match partEqW (y7, a1, a2, p, ()) with
            | none => none
            | some (y12, y13, _) => some (.inl (y12, y13, a2, l, a4, a5, ()))
          | false => match partW (y7, a1, a2, p, ()) with
            | none => none
            | some (y14, y15, y16, _) => match quo? .i64 (IntKind.wrap .i64 (a2 - a1)) (8 : Int) with
              | none => none
              | some x17 => match (ilt (IntKind.wrap .i64 (y15 - a1)) (IntKind.wrap .i64 (a2 - y15))) with
                | true => match self (y14, a1, y15, l, ()) with
                  | none => none
                  | some (y18, _) => some (.inl (y18, (IntKind.wrap .i64 (y15 + (1 : Int))), a2, l, (ile x17 (IntKind.wrap .i64 (y15 - a1))), y16, ()))
                | false => match self (y14, (IntKind.wrap .i64 (y15 + (1 : Int))), a2, l, ()) with
                  | none => none
                  | some (y19, _) => some (.inl (y19, a1, y15, l, (ile x17 (IntKind.wrap .i64 (a2 - y15))), y16, ()))
  | false => match partW (y7, a1, a2, p, ()) with
    | none => none
    | some (y20, y21, y22, _) => match quo? .i64 (IntKind.wrap .i64 (a2 - a1)) (8 : Int) with
      | none => none
      | some x23 => match (ilt (IntKind.wrap .i64 (y21 - a1)) (IntKind.wrap .i64 (a2 - y21))) with
        | true => match self (y20, a1, y21, l, ()) with
          | none => none
          | some (y24, _) => some (.inl (y24, (IntKind.wrap .i64 (y21 + (1 : Int))), a2, l, (ile x23 (IntKind.wrap .i64 (y21 - a1))), y22, ()))
        | false => match self (y20, (IntKind.wrap .i64 (y21 + (1 : Int))), a2, l, ()) with
          | none => none
          | some (y25, _) => some (.inl (y25, a1, y21, l, (ile x23 (IntKind.wrap .i64 (a2 - y21))), y22, ()))
def pdqEnd (self : (List Int × Int × Int × Int × Unit) → Option ((List Int × Unit))) (y6 : List Int) (a1 a2 p h l : Int) (a4 a5 : Bool) : Option PdqOutT :=
  match a4 with
  | true => match a5 with
    | true => match (ieq h (1 : Int)) with
      | true => match partInsW (y6, a1, a2, ()) with
        | none => none
        | some (y7, y8, _) => match y8 with
          | true => some (.inr (.inl (y7, ())))
          | false => pdqTail self y7 a1 a2 p l a4 a5
      | false => pdqTail self y6 a1 a2 p l a4 a5
    | false => pdqTail self y6 a1 a2 p l a4 a5
  | false => pdqTail self y6 a1 a2 p l a4 a5
def pdqMid (self : (List Int × Int × Int × Int × Unit) → Option ((List Int × Unit))) (y2 : List Int) (a1 a2 l : Int) (a4 a5 : Bool) : Option PdqOutT :=
  match pivotW (y2, a1, a2, ()) with
  | none => none
  | some (y3, y4, y5, _) => match (ieq y5 (2 : Int)) with
    | true => match revW (y3, a1, a2, ()) with
      | none => none
      | some (y6, _) => pdqEnd self y6 a1 a2 (IntKind.wrap .i64 ((IntKind.wrap .i64 (a2 - (1 : Int))) - (IntKind.wrap .i64 (y4 - a1)))) 1 l a4 a5
    | false => pdqEnd self y3 a1 a2 y4 y5 l a4 a5
def pdqRound (self : (List Int × Int × Int × Int × Unit) → Option ((List Int × Unit))) : PdqSt → Option PdqOutT := fun (a0, a1, a2, a3, a4, a5, _) =>
  match (ile (IntKind.wrap .i64 (a2 - a1)) (12 : Int)) with
  | true => match insW (a0, a1, a2, ()) with
    | none => none
    | some (y0, _) => some (.inr (.inl (y0, ())))
  | false => match (ieq a3 (0 : Int)) with
    | true => match heapW (a0, a1, a2, ()) with
      | none => none
      | some (y1, _) => some (.inr (.inl (y1, ())))
    | false => match (!a4) with
      | true => match breakW (a0, a1, a2, ()) with
        | none => none
        | some (y2, _) => pdqMid self y2 a1 a2 (IntKind.wrap .i64 (a3 - (1 : Int))) a4 a5
      | false => pdqMid self a0 a1 a2 a3 a4 a5
theorem pdqW_s0_round : pdqW_s0 = pdqRound := rfl
end

/-- what a round of the loop may end in -/
def PdqOut (d : Array Int) (a b : Nat) : PdqOutT → Prop
  | .inl (xs, x, y, l, _, _, _) => ∃ (e : Array Int) (i j : Nat), xs = e.toList ∧ x = (i : Int) ∧ y = (j : Int) ∧ 0 ≤ l ∧ l ≤ 100 ∧ i ≤ j ∧ j ≤ e.size ∧ e.size = d.size ∧ j - i < b - a ∧ Below ltInt i j e ∧
      ∀ R, PermIn i j e R → SortedIn ltInt i j R → PermIn a b d R ∧ SortedIn ltInt a b R
  | .inr (.inl (xs, _)) => ∃ R : Array Int, xs = R.toList ∧ PermIn a b d R ∧ SortedIn ltInt a b R
  | .inr (.inr _) => False

def PdqCalls (self : (List Int × Int × Int × Int × Unit) → Option ((List Int × Unit))) (m : Nat) : Prop :=
  ∀ (d : Array Int) (a b : Nat) (l : Int), a ≤ b → b ≤ d.size → d.size < 4294967296 → 0 ≤ l → l ≤ 100 → Below ltInt a b d → 2 * (b - a) < m →
    ∃ R : Array Int, self (d.toList, (a : Int), (b : Int), l, ()) = some (R.toList, ()) ∧ PermIn a b d R ∧ SortedIn ltInt a b R

section
variable {self : (List Int × Int × Int × Int × Unit) → Option ((List Int × Unit))} {d : Array Int} {a b : Nat} {l : Int}
theorem pdq_part (hself : PdqCalls self (b - a)) (hb : b ≤ d.size) (hs : d.size < 4294967296) (hl : 0 ≤ l ∧ l ≤ 100)
    {d3 : Array Int} {p : Nat} (P3 : PermIn a b d d3) (B3 : Below ltInt a b d3) (hp1 : a ≤ p) (hp2 : p < b) :
    ∃ o, (match partW (d3.toList, (a : Int), (b : Int), (p : Int), ()) with
    | none => none
    | some (y20, y21, y22, _) => match quo? .i64 (IntKind.wrap .i64 ((b : Int) - (a : Int))) (8 : Int) with
      | none => none
      | some x23 => match (ilt (IntKind.wrap .i64 (y21 - (a : Int))) (IntKind.wrap .i64 ((b : Int) - y21))) with
        | true => match self (y20, (a : Int), y21, l, ()) with
          | none => none
          | some (y24, _) => some ((.inl (y24, (IntKind.wrap .i64 (y21 + (1 : Int))), (b : Int), l, (ile x23 (IntKind.wrap .i64 (y21 - (a : Int)))), y22, ())) : PdqOutT)
        | false => match self (y20, (IntKind.wrap .i64 (y21 + (1 : Int))), (b : Int), l, ()) with
          | none => none
          | some (y25, _) => some (.inl (y25, (a : Int), y21, l, (ile x23 (IntKind.wrap .i64 ((b : Int) - y21))), y22, ()))) = some o ∧ PdqOut d a b o := by
  have b3 : b ≤ d3.size := by rw [P3.1]; exact hb
  have s3 : d3.size < 4294967296 := by rw [P3.1]; exact hs
  rw [partW_val d3 a b p hp1 hp2 b3 s3]
  rcases hx : partition ltInt d3 a b p with ⟨mid, ap, d4⟩
  obtain ⟨g1, g2, hs4, hBa, hBr, hleft, hright⟩ := round_part swo_ltInt (partition_holds _) hp1 hp2 b3 B3 hx
  simp (disch := omega) only [wrap_sub, wrap_add1, quo_8, ilt_nat]
  have b4 : b ≤ d4.size := by omega
  by_cases h : mid - a < b - mid
  · obtain ⟨L, e, l1, l2⟩ := hself d4 a mid l g1 (by omega) (by omega) hl.1 hl.2 hBa (by omega)
    simp only [h, decide_true, e]
    obtain ⟨hBL, hfin⟩ := hleft _ l1 l2
    refine ⟨_, rfl, L, mid + 1, b, rfl, rfl, rfl, hl.1, hl.2, by omega, by rw [l1.1]; exact b4, by rw [l1.1, hs4, P3.1], by omega, hBL, fun R r1 r2 => ?_⟩
    obtain ⟨q1, q2⟩ := hfin R r1 r2
    exact ⟨permIn_trans _ _ _ a b P3 q1, q2⟩
  · obtain ⟨L, e, l1, l2⟩ := hself d4 (mid + 1) b l (by omega) (by omega) (by omega) hl.1 hl.2 hBr (by omega)
    simp only [h, decide_false, e]
    obtain ⟨hBL, hfin⟩ := hright _ l1 l2
    refine ⟨_, rfl, L, a, mid, rfl, rfl, rfl, hl.1, hl.2, by omega, by rw [l1.1]; omega, by rw [l1.1, hs4, P3.1], by omega, hBL, fun R r1 r2 => ?_⟩
    obtain ⟨q1, q2⟩ := hfin R r1 r2
    exact ⟨permIn_trans _ _ _ a b P3 q1, q2⟩

theorem pdq_tail (hself : PdqCalls self (b - a)) (hb : b ≤ d.size) (hs : d.size < 4294967296) (hl : 0 ≤ l ∧ l ≤ 100)
    {d3 : Array Int} {p : Nat} (wb wp : Bool) (P3 : PermIn a b d d3) (B3 : Below ltInt a b d3) (hp1 : a ≤ p) (hp2 : p < b) :
    ∃ o, pdqTail self d3.toList (a : Int) (b : Int) (p : Int) l wb wp = some o ∧ PdqOut d a b o := by
  have b3 : b ≤ d3.size := by rw [P3.1]; exact hb
  have s3 : d3.size < 4294967296 := by rw [P3.1]; exact hs
  rw [pdqTail, ilt_eq]
  by_cases h0 : 0 < a
  · rw [decide_eq_true (by omega)]
    have i0 : a - 1 < d3.size := by omega
    have i1 : p < d3.size := by omega
    simp (disch := omega) only [wrap_sub1, idx_at, dget_at, lessW_val]
    cases hc : ltInt d3[a - 1]! d3[p]!
    · simp only [Bool.not_false]
      rw [partEqW_val d3 a b p hp1 hp2 b3 s3]
      rcases hx : partitionEqual ltInt d3 a b p with ⟨mid, d4⟩
      obtain ⟨hm1, hm2, hs4, hB4, hfin⟩ := round_eq swo_ltInt (partitionEqual_holds _) h0 hp1 hp2 b3 B3 hc hx
      refine ⟨_, rfl, d4, mid, b, rfl, rfl, rfl, hl.1, hl.2, by omega, by omega, by rw [hs4, P3.1], by omega, hB4, fun R r1 r2 => ?_⟩
      obtain ⟨q1, q2⟩ := hfin R r1 r2
      exact ⟨permIn_trans _ _ _ a b P3 q1, q2⟩
    · simp only [Bool.not_true]
      exact pdq_part hself hb hs hl P3 B3 hp1 hp2
  · rw [decide_eq_false (by omega)]
    exact pdq_part hself hb hs hl P3 B3 hp1 hp2

theorem pdq_end (hself : PdqCalls self (b - a)) (hab : a < b) (hb : b ≤ d.size) (hs : d.size < 4294967296) (hl : 0 ≤ l ∧ l ≤ 100)
    {d3 : Array Int} {p : Nat} (h : Int) (wb wp : Bool) (P3 : PermIn a b d d3) (B3 : Below ltInt a b d3) (hp1 : a ≤ p) (hp2 : p < b) :
    ∃ o, pdqEnd self d3.toList (a : Int) (b : Int) (p : Int) h l wb wp = some o ∧ PdqOut d a b o := by
  have b3 : b ≤ d3.size := by rw [P3.1]; exact hb
  have s3 : d3.size < 4294967296 := by rw [P3.1]; exact hs
  unfold pdqEnd
  cases wb
  · exact pdq_tail hself hb hs hl _ _ P3 B3 hp1 hp2
  · cases wp
    · exact pdq_tail hself hb hs hl _ _ P3 B3 hp1 hp2
    · simp only []
      cases ieq h 1
      · exact pdq_tail hself hb hs hl _ _ P3 B3 hp1 hp2
      · simp only []
        rw [partInsW_val d3 a b hab b3 s3]
        obtain ⟨q1, q2⟩ := partialInsertionSort_holds (lt := ltInt) swo_ltInt d3 a b hab b3 B3
        rcases hx : partialInsertionSort ltInt d3 a b with ⟨d4, fin⟩
        rw [hx] at q1 q2
        have P4 : PermIn a b d d4 := permIn_trans _ _ _ a b P3 q1
        cases fin
        · exact pdq_tail hself hb hs hl _ _ P4 (B3.perm b3 q1) hp1 hp2
        · exact ⟨_, rfl, d4, rfl, P4, q2 rfl⟩

theorem pdq_mid (hself : PdqCalls self (b - a)) (hab : a + 8 ≤ b) (hb : b ≤ d.size) (hs : d.size < 4294967296) (hl : 0 ≤ l ∧ l ≤ 100)
    {d3 : Array Int} (wb wp : Bool) (P3 : PermIn a b d d3) (B3 : Below ltInt a b d3) :
    ∃ o, pdqMid self d3.toList (a : Int) (b : Int) l wb wp = some o ∧ PdqOut d a b o := by
  have b3 : b ≤ d3.size := by rw [P3.1]; exact hb
  have s3 : d3.size < 4294967296 := by rw [P3.1]; exact hs
  rw [pdqMid]
  obtain ⟨p, h, e, hp1, hp2⟩ := pivotW_val d3 a b hab b3 s3
  simp only [e]
  cases ieq h 2
  · exact pdq_end hself (by omega) hb hs hl h _ _ P3 B3 hp1 hp2
  · simp only [revW_val d3 a b (by omega) b3 s3]
    have q1 := reverseRange_holds (α := Int) d3 a b (by omega) b3
    simp (disch := omega) only [wrap_sub1, wrap_sub]
    exact pdq_end hself (by omega) hb hs hl 1 _ _ (permIn_trans _ _ _ a b P3 q1) (B3.perm b3 q1) (by omega) (by omega)

theorem pdq_round (hself : PdqCalls self (b - a)) (hab : a ≤ b) (hb : b ≤ d.size) (hs : d.size < 4294967296) (hl : 0 ≤ l ∧ l ≤ 100) (wb wp : Bool) (B : Below ltInt a b d) :
    ∃ o, pdqW_s0 self (d.toList, (a : Int), (b : Int), l, wb, wp, ()) = some o ∧ PdqOut d a b o := by
  rw [pdqW_s0_round, pdqRound]
  simp (disch := omega) only [wrap_sub, ile_eq, ieq_eq]
  by_cases h12 : b - a ≤ 12
  · rw [decide_eq_true (show ((b - a : Nat) : Int) ≤ 12 by omega)]
    simp only [insW_val d a b hab hb hs]
    obtain ⟨q1, q2⟩ := insertionSort_holds (lt := ltInt) swo_ltInt d a b hab hb
    exact ⟨_, rfl, _, rfl, q1, q2⟩
  · rw [decide_eq_false (show ¬ ((b - a : Nat) : Int) ≤ 12 by omega)]
    simp only []
    by_cases h0 : l = 0
    · subst h0
      simp only [BEq.rfl, heapW_val d a b (by omega) hb hs]
      obtain ⟨q1, q2⟩ := heapSort_holds (lt := ltInt) swo_ltInt d a b hab hb
      exact ⟨_, rfl, _, rfl, q1, q2⟩
    · rw [show (l == 0) = false by simpa using h0]
      simp only []
      cases wb
      · obtain ⟨d', e, q1⟩ := breakW_val d a b hab hb hs
        simp only [Bool.not_false, e]
        rw [wrap_in (by omega)]
        exact pdq_mid hself (by omega) hb hs (by omega) _ _ q1 (B.perm hb q1)
      · simp only [Bool.not_true]
        exact pdq_mid hself (by omega) hb hs hl _ _ (permIn_refl d a b) B
end

theorem pdq_loop {self : (List Int × Int × Int × Int × Unit) → Option ((List Int × Unit))} {m : Nat} (hself : PdqCalls self m) : ∀ (k : Nat) (d : Array Int) (a b : Nat) (l : Int) (wb wp : Bool) (n : Nat), b - a = k → k ≤ m → a ≤ b → b ≤ d.size → d.size < 4294967296 → 0 ≤ l → l ≤ 100 → Below ltInt a b d → k < n →
    ∃ R : Array Int, iterO (pdqW_s0 self) n (d.toList, (a : Int), (b : Int), l, wb, wp, ()) = some (.inl (R.toList, ())) ∧ PermIn a b d R ∧ SortedIn ltInt a b R := by
  intro k
  induction k using Nat.strongRecOn with
  | _ k ih =>
  intro d a b l wb wp n hk hm hab hb hs hl1 hl2 B hn
  obtain ⟨n, rfl⟩ : ∃ k, n = k + 1 := ⟨n - 1, by omega⟩
  have hself' : PdqCalls self (b - a) := fun d a' b' l h1 h2 h3 h4 h5 h6 h7 => hself d a' b' l h1 h2 h3 h4 h5 h6 (by omega)
  obtain ⟨o, e, ho⟩ := pdq_round hself' hab hb hs ⟨hl1, hl2⟩ wb wp B
  rw [iterO, e]
  match o, ho with
  | .inl (xs, x, y, l', wb', wp', _), ho =>
    obtain ⟨e', i, j, rfl, rfl, rfl, g1, g2, g3, g4, g5, g6, g7, hfin⟩ := ho
    obtain ⟨R, e2, r1, r2⟩ := ih (j - i) (by omega) e' i j l' wb' wp' n rfl (by omega) g3 g4 (by omega) g1 g2 g7 (by omega)
    exact ⟨R, e2, hfin R r1 r2⟩
  | .inr (.inl (xs, _)), ho =>
    obtain ⟨R, rfl, r1, r2⟩ := ho
    exact ⟨R, rfl, r1, r2⟩

theorem pdq_calls : ∀ k : Nat, PdqCalls (pdqW_f (k + 1)) (2 ^ k) := by
  intro k
  have hmany : 4294967296 < many := by simp only [many]; omega
  induction k with
  | zero =>
    intro d a b l h1 h2 h3 h4 h5 h6 h7
    have : PdqCalls (pdqW_f 0) 0 := fun _ _ _ _ _ _ _ _ _ _ h => by omega
    obtain ⟨R, e, r1, r2⟩ := pdq_loop this (b - a) d a b l true true many rfl (by omega) h1 h2 h3 h4 h5 h6 (by omega)
    refine ⟨R, ?_, r1, r2⟩
    rw [pdqW_f, pdqW_d]
    simp only [iterL_eq, e]
  | succ k ih =>
    intro d a b l h1 h2 h3 h4 h5 h6 h7
    have hp : 2 ^ (k + 1) = 2 * 2 ^ k := by rw [Nat.pow_succ]; omega
    obtain ⟨R, e, r1, r2⟩ := pdq_loop ih (b - a) d a b l true true many rfl (by omega) h1 h2 h3 h4 h5 h6 (by omega)
    refine ⟨R, ?_, r1, r2⟩
    rw [pdqW_f, pdqW_d]
    simp only [iterL_eq, e]

/-- the sorted list -/
def sorted (xs : List Int) : List Int := xs.mergeSort (fun x y => decide (x ≤ y))

theorem sorted_eq {d d' : Array Int} (h1 : PermIn 0 d.size d d') (h2 : SortedIn ltInt 0 d.size d') : d'.toList = sorted d.toList := by
  have h := sorted_unique_holds (lt := ltInt) swo_ltInt (fun x y h1 h2 => by simp [ltInt] at h1 h2; omega) d d' h1 h2
  rw [h, sorted]
  congr
  funext x y
  by_cases h : x ≤ y
  · simp [ltInt, h, Int.not_lt.2 h]
  · simp [ltInt, h, Int.not_le.1 h]

theorem sortW_val (xs : List Int) (h : xs.length < 4294967296) : sortW (xs, ()) = some (sorted xs, ()) := by
  obtain ⟨d, rfl⟩ : ∃ d : Array Int, xs = d.toList := ⟨xs.toArray, rfl⟩
  rw [Array.length_toList] at h
  rw [sortW_eq, sortW_d]
  rw [dlen_at, u64_in (by omega)]
  obtain ⟨v, e, hv, _⟩ := bitsLen_val d.size h
  simp only [e]
  obtain ⟨R, e2, r1, r2⟩ := pdq_calls 99 d 0 d.size (v : Int) (by omega) (by omega) h (by omega) (by omega) (.inl rfl) (by
    have : 2 ^ 99 = 633825300114114700748351602688 := by decide
    omega)
  have e3 : pdqW (d.toList, (0 : Int), (d.size : Int), (v : Int), ()) = some (R.toList, ()) := by rw [pdqW_eq]; exact e2
  simp only [e3, sorted_eq r1 r2]
end Go.Pev.Pl
end
section
namespace Go.Pev.Pl
/- lists by places -/
section
variable {α : Type}
theorem idx_l {xs : List α} {n : Nat} (z : α) (h : n < xs.length) : idx xs (n : Int) = some (xs.getD n z) := by
  rw [idx_eq, idxR, if_neg (by omega)]
  simp [h]
theorem idx_ok {xs : List α} {n : Nat} (h : n < xs.length) : ∃ x, idx xs (n : Int) = some x := by
  rw [idx_eq, idxR, if_neg (by omega)]
  exact ⟨xs[n], by simp [h]⟩
theorem dget_l (xs : List α) (n : Nat) (z : α) : dget xs (dnat (n : Int)) z = xs.getD n z := by simp [dget, dnat]
theorem dset_l (xs : List α) (n : Nat) (x : α) : dset xs (dnat (n : Int)) x = xs.set n x := by simp [dset, dnat]
theorem dlen_l (xs : List α) : dlen xs = (xs.length : Int) := rfl
theorem dnat_l (n : Nat) : dnat (n : Int) = n := by simp [dnat]
theorem subl_l {xs : List α} {l h : Nat} (h1 : l ≤ h) (h2 : h ≤ xs.length) : subl xs (l : Int) (h : Int) = some ((xs.take h).drop l) := by
  rw [subl_eq, sublR, if_pos (by omega)]
  simp
end
theorem fits_l {n : Int} (h : n ≤ 4294967296) : fits n = true := (fits_iff n).2 h
theorem cloneF_val {α : Type} {xs : List α} (h : xs.length ≤ 4294967296) : cloneF xs = some xs := by
  rw [cloneF_eq, cloneR, (fitsR_iff _).2 (by rw [dlen_l]; omega)]

/- the rising list of the same words -/
def insU (x : Int) : List Int → List Int
  | [] => [x]
  | y :: ys => if y < x then y :: insU x ys else if y = x then y :: ys else x :: y :: ys
def ups (xs : List Int) : List Int := xs.foldl (fun out x => insU x out) []

theorem mem_insU (x z : Int) : ∀ l : List Int, z ∈ insU x l ↔ z = x ∨ z ∈ l := by
  intro l
  induction l with
  | nil => simp [insU]
  | cons y ys ih =>
    rw [insU]
    split
    · simp only [List.mem_cons, ih]
      constructor
      · rintro (h | h | h) <;> simp [h]
      · rintro (h | h | h) <;> simp [h]
    · split
      · rename_i h; subst h; simp
      · simp
abbrev Up (l : List Int) : Prop := l.Pairwise (· < ·)
theorem up_insU (x : Int) : ∀ l : List Int, Up l → Up (insU x l) := by
  intro l
  induction l with
  | nil => intro _; simp [insU]
  | cons y ys ih =>
    intro h
    have h := List.pairwise_cons.1 h
    rw [insU]
    split
    · refine List.pairwise_cons.2 ⟨fun z hz => ?_, ih h.2⟩
      rcases (mem_insU x z ys).1 hz with rfl | hz
      · assumption
      · exact h.1 z hz
    · split
      · exact List.pairwise_cons.2 h
      · refine List.pairwise_cons.2 ⟨fun z hz => ?_, List.pairwise_cons.2 h⟩
        rcases List.mem_cons.1 hz with rfl | hz
        · omega
        · have := h.1 z hz; omega
theorem foldl_insU : ∀ (xs out : List Int), Up out → Up (xs.foldl (fun out x => insU x out) out) ∧ ∀ z, z ∈ xs.foldl (fun out x => insU x out) out ↔ z ∈ out ∨ z ∈ xs := by
  intro xs
  induction xs with
  | nil => intro out h; exact ⟨h, fun z => by simp⟩
  | cons x xs ih =>
    intro out h
    obtain ⟨h1, h2⟩ := ih (insU x out) (up_insU x out h)
    refine ⟨h1, fun z => ?_⟩
    rw [List.foldl_cons, h2 z, mem_insU, List.mem_cons]
    constructor
    · rintro ((h | h) | h) <;> simp [h]
    · rintro (h | h | h) <;> simp [h]
theorem up_ups (xs : List Int) : Up (ups xs) := (foldl_insU xs [] List.Pairwise.nil).1
theorem mem_ups (xs : List Int) (z : Int) : z ∈ ups xs ↔ z ∈ xs := by
  have := (foldl_insU xs [] List.Pairwise.nil).2 z
  unfold ups
  simpa using this
/-- there is one rising list of the same words -/
theorem up_unique : ∀ {l m : List Int}, Up l → Up m → (∀ z, z ∈ l ↔ z ∈ m) → l = m := by
  intro l
  induction l with
  | nil =>
    intro m _ _ h
    cases m with
    | nil => rfl
    | cons y ys => exact absurd ((h y).2 List.mem_cons_self) (by simp)
  | cons x xs ih =>
    intro m hl hm h
    cases m with
    | nil => exact absurd ((h x).1 List.mem_cons_self) (by simp)
    | cons y ys =>
      have hl := List.pairwise_cons.1 hl
      have hm := List.pairwise_cons.1 hm
      have e : x = y := by
        rcases List.mem_cons.1 ((h x).1 List.mem_cons_self) with e | e
        · exact e
        · rcases List.mem_cons.1 ((h y).2 List.mem_cons_self) with e2 | e2
          · exact e2.symm
          · have := hl.1 y e2; have := hm.1 x e; omega
      subst e
      congr 1
      refine ih hl.2 hm.2 fun z => ?_
      have := h z
      simp only [List.mem_cons] at this
      constructor
      · intro hz
        rcases this.1 (.inr hz) with e | e
        · subst e; have := hl.1 z hz; omega
        · exact e
      · intro hz
        rcases this.2 (.inr hz) with e | e
        · subst e; have := hm.1 z hz; omega
        · exact e

/- what Compact makes of a list -/
def sq (o : List Int) : Nat → List Int
  | 0 => []
  | n + 1 => if 0 < n ∧ o.getD n 0 = o.getD (n - 1) 0 then sq o n else sq o n ++ [o.getD n 0]
theorem sq_len (o : List Int) : ∀ n, (sq o n).length ≤ n := by
  intro n
  induction n with
  | zero => simp [sq]
  | succ n ih =>
    rw [sq]
    split
    · omega
    · simp; omega
theorem sq_last (o : List Int) : ∀ n, 0 < n → ∃ l, sq o n = l ++ [o.getD (n - 1) 0] := by
  intro n
  induction n with
  | zero => intro h; omega
  | succ n ih =>
    intro _
    rw [sq]
    split
    · rename_i h
      obtain ⟨l, e⟩ := ih h.1
      exact ⟨l, by rw [e, ← h.2]; rfl⟩
    · exact ⟨_, rfl⟩
theorem sq_mem (o : List Int) (z : Int) : ∀ n, z ∈ sq o n ↔ ∃ k, k < n ∧ z = o.getD k 0 := by
  intro n
  induction n with
  | zero => simp [sq]
  | succ n ih =>
    rw [sq]
    split
    · rename_i h
      rw [ih]
      constructor
      · rintro ⟨k, hk, e⟩; exact ⟨k, by omega, e⟩
      · rintro ⟨k, hk, e⟩
        by_cases hn : k = n
        · subst hn; exact ⟨k - 1, by omega, by rw [e, h.2]⟩
        · exact ⟨k, by omega, e⟩
    · rw [List.mem_append, ih, List.mem_singleton]
      constructor
      · rintro (⟨k, hk, e⟩ | e)
        · exact ⟨k, by omega, e⟩
        · exact ⟨n, by omega, e⟩
      · rintro ⟨k, hk, e⟩
        by_cases hn : k = n
        · subst hn; exact .inr e
        · exact .inl ⟨k, by omega, e⟩
theorem sq_up (o : List Int) (hs : ∀ i, i + 1 < o.length → o.getD i 0 ≤ o.getD (i + 1) 0) : ∀ n, n ≤ o.length → Up (sq o n) := by
  intro n
  induction n with
  | zero => intro _; simp [sq]
  | succ n ih =>
    intro hn
    rw [sq]
    split
    · exact ih (by omega)
    · rename_i h
      have h1 := ih (by omega)
      refine List.pairwise_append.2 ⟨h1, by simp, fun a ha b hb => ?_⟩
      rw [List.mem_singleton] at hb
      subst hb
      by_cases h0 : 0 < n
      · obtain ⟨l, e⟩ := sq_last o n h0
        have hlt : o.getD (n - 1) 0 < o.getD n 0 := by
          have := hs (n - 1) (by omega)
          rw [Nat.sub_add_cancel h0] at this
          have h3 : ¬ o.getD n 0 = o.getD (n - 1) 0 := fun e => h ⟨h0, e⟩
          omega
        rw [e] at ha h1
        rcases List.mem_append.1 ha with ha | ha
        · have := (List.pairwise_append.1 h1).2.2 a ha (o.getD (n - 1) 0) (by simp)
          omega
        · rw [List.mem_singleton] at ha; omega
      · have : n = 0 := by omega
        subst this
        simp [sq] at ha

theorem getD_drop_eq {a o : List Int} {m k : Nat} (h : a.drop m = o.drop m) (hk : m ≤ k) : a.getD k 0 = o.getD k 0 := by
  have := congrArg (fun l => l.getD (k - m) 0) h
  simp only [List.getD_eq_getElem?_getD, List.getElem?_drop] at this
  rw [Nat.add_sub_cancel' hk] at this
  simpa [List.getD_eq_getElem?_getD] using this

theorem compactW_in (o : List Int) (k0 : Nat) (h0 : 1 ≤ k0) (hs : o.length < 4294967296) : ∀ (k t w : Nat) (a : List Int) (n : Nat), t + k = o.length - k0 → 1 ≤ t → k0 + t ≤ o.length → a.length = o.length → w = (sq o (k0 + t)).length → a.take w = sq o (k0 + t) → w < k0 + t → a.drop (k0 + t - 1) = o.drop (k0 + t - 1) → k < n →
    ∃ a' : List Int, iterO compactW_s1 n (a, (w : Int), (k0 : Int), ((o.length - k0 : Nat) : Int), (t : Int), ()) = some (.inl (a', (((sq o o.length).length : Nat) : Int), ())) ∧ a'.length = o.length ∧ a'.take (sq o o.length).length = sq o o.length := by
  intro k
  induction k with
  | zero =>
    intro t w a n hk ht hto hl hw hq hwt hd hn
    obtain ⟨n, rfl⟩ : ∃ k, n = k + 1 := ⟨n - 1, by omega⟩
    rw [iterO, compactW_s1]
    simp only [dnat_l, ilt_nat]
    rw [decide_eq_false (by omega)]
    have e : k0 + t = o.length := by omega
    rw [e] at hw hq
    exact ⟨a, by rw [hw], hl, by rw [← hw]; exact hq⟩
  | succ k ih =>
    intro t w a n hk ht hto hl hw hq hwt hd hn
    obtain ⟨n, rfl⟩ : ∃ k, n = k + 1 := ⟨n - 1, by omega⟩
    rw [iterO, compactW_s1]
    simp (disch := omega) only [dnat_l, ilt_nat, wrap_sub1, wrap_add1]
    rw [decide_eq_true (by omega)]
    have hc : (dcut k0 (o.length - k0) a).length = o.length - k0 := by simp [dcut, hl]
    obtain ⟨x0, e0⟩ := idx_ok (xs := dcut k0 (o.length - k0) a) (n := t) (by omega)
    obtain ⟨x1, e1⟩ := idx_ok (xs := dcut k0 (o.length - k0) a) (n := t - 1) (by omega)
    obtain ⟨x2, e2⟩ := idx_ok (xs := a) (n := w) (by omega)
    have g1 : a.getD (k0 + t) 0 = o.getD (k0 + t) 0 := getD_drop_eq hd (by omega)
    have g2 : a.getD (k0 + (t - 1)) 0 = o.getD (k0 + t - 1) 0 := by
      rw [show k0 + (t - 1) = k0 + t - 1 by omega]
      exact getD_drop_eq hd (by omega)
    simp only [e0, e1, e2, dget, dset, g1, g2, ieq_eq]
    have hsq : sq o (k0 + (t + 1)) = if 0 < k0 + t ∧ o.getD (k0 + t) 0 = o.getD (k0 + t - 1) 0 then sq o (k0 + t) else sq o (k0 + t) ++ [o.getD (k0 + t) 0] := rfl
    have hdd : a.drop (k0 + t) = o.drop (k0 + t) := by
      have := congrArg (List.drop 1) hd
      simp only [List.drop_drop] at this
      rwa [show k0 + t - 1 + 1 = k0 + t by omega] at this
    by_cases h : o.getD (k0 + t) 0 = o.getD (k0 + t - 1) 0
    · rw [if_pos ⟨by omega, h⟩] at hsq
      rw [h]
      simp only [BEq.rfl, Bool.not_true]
      exact ih (t + 1) w a n (by omega) (by omega) (by omega) hl (by rw [hsq]; exact hw) (by rw [hsq]; exact hq) (by omega) (by rw [show k0 + (t + 1) - 1 = k0 + t by omega]; exact hdd) (by omega)
    · rw [if_neg (fun e => h e.2)] at hsq
      rw [show (o.getD (k0 + t) 0 == o.getD (k0 + t - 1) 0) = false by simpa using h]
      simp only [Bool.not_false]
      refine ih (t + 1) (w + 1) (a.set w (o.getD (k0 + t) 0)) n (by omega) (by omega) (by omega) (by simp [hl]) (by rw [hsq]; simp [hw]) ?_ (by omega) ?_ (by omega)
      · rw [hsq, ← hq, List.take_succ_eq_append_getElem (by simp; omega)]
        simp [List.take_set_of_le]
      · rw [show k0 + (t + 1) - 1 = k0 + t by omega, List.drop_set_of_lt (by omega)]
        exact hdd

theorem compactW_out (o : List Int) (hs : o.length < 4294967296) : ∀ (k i n : Nat), i + k = o.length → 1 ≤ i → sq o i = o.take i → k < n →
    ∃ a' : List Int, (iterO compactW_s0 n (o, (i : Int), ()) = some (.inl (a', (((sq o o.length).length : Nat) : Int), ())) ∧ a'.take (sq o o.length).length = sq o o.length ∧ a'.length = o.length) ∨
     (iterO compactW_s0 n (o, (i : Int), ()) = some (.inr (.inl (o, ()))) ∧ sq o o.length = o) := by
  intro k
  have hm : 4294967296 < many := by simp only [many]; omega
  induction k with
  | zero =>
    intro i n hk h1 hq hn
    obtain ⟨n, rfl⟩ : ∃ k, n = k + 1 := ⟨n - 1, by omega⟩
    rw [iterO, compactW_s0]
    simp only [dlen_l, ilt_nat]
    rw [decide_eq_false (by omega)]
    have e : i = o.length := by omega
    subst e
    exact ⟨o, .inr ⟨rfl, by simpa using hq⟩⟩
  | succ k ih =>
    intro i n hk h1 hq hn
    obtain ⟨n, rfl⟩ : ∃ k, n = k + 1 := ⟨n - 1, by omega⟩
    rw [iterO, compactW_s0]
    simp (disch := omega) only [dlen_l, ilt_nat, wrap_sub1, wrap_add1, idx_l (0 : Int), dget_l, ieq_eq]
    rw [decide_eq_true (by omega)]
    have hsq : sq o (i + 1) = if 0 < i ∧ o.getD i 0 = o.getD (i - 1) 0 then sq o i else sq o i ++ [o.getD i 0] := rfl
    by_cases h : o.getD i 0 = o.getD (i - 1) 0
    · rw [if_pos ⟨by omega, h⟩] at hsq
      rw [h]
      simp (disch := omega) only [BEq.rfl, subl_l, iterL_eq, List.take_length, List.length_drop, dnat_l]
      have hl : (sq o (i + 1)).length = i := by rw [hsq, hq, List.length_take]; omega
      obtain ⟨a', e, e1, e2⟩ := compactW_in o i h1 hs (o.length - i - 1) 1 i o many (by omega) (by omega) (by omega) rfl hl.symm (by rw [hsq, hq]) (by omega) rfl (by omega)
      have e' : iterO compactW_s1 many (o, (i : Int), (i : Int), ((o.length - i : Nat) : Int), (1 : Int), ()) = _ := e
      have hle := sq_len o o.length
      simp only [e']
      rw [subl_l (by omega) (by omega)]
      simp only [List.take_length, List.length_drop, dnat_l]
      have hcl : (dclear (sq o o.length).length (a'.length - (sq o o.length).length) 0 a').length = a'.length := by
        simp [dclear]; omega
      have s0 : subl (dclear (sq o o.length).length (a'.length - (sq o o.length).length) 0 a') (0 : Int) (((sq o o.length).length : Nat) : Int) = some _ := subl_l (l := 0) (by omega) (by omega)
      simp only [s0]
      refine ⟨dclear (sq o o.length).length (a'.length - (sq o o.length).length) 0 a', .inl ⟨?_, ?_, by omega⟩⟩
      · simp only [List.drop_zero, List.length_take]
        rw [Nat.min_eq_left (by omega)]
      · rw [dclear, List.take_append_of_le_length (by simp; omega), List.take_take, Nat.min_self]
        exact e2
    · rw [if_neg (fun e => h e.2)] at hsq
      rw [show (o.getD i 0 == o.getD (i - 1) 0) = false by simpa using h]
      simp only []
      refine ih (i + 1) n (by omega) (by omega) ?_ (by omega)
      rw [hsq, hq, List.take_succ_eq_append_getElem (by omega)]
      simp [show i < o.length by omega]

theorem compactW_val (o : List Int) (hs : o.length < 4294967296) : ∃ a : List Int, compactW (o, ()) = some (a, (((sq o o.length).length : Nat) : Int), ()) ∧ a.take (sq o o.length).length = sq o o.length := by
  have hm : 4294967296 < many := by simp only [many]; omega
  rw [compactW_eq, compactW_d, ilt_eq, dlen_l]
  by_cases h : o.length < 2
  · rw [decide_eq_true (by omega)]
    match o, h with
    | [], _ => exact ⟨[], rfl, rfl⟩
    | [x], _ => exact ⟨[x], rfl, rfl⟩
  · rw [decide_eq_false (by omega)]
    simp only [iterL_eq]
    have h1 : sq o 1 = o.take 1 := by
      match o, h with
      | x :: xs, _ => rfl
    obtain ⟨a, ⟨e, e1, e2⟩ | ⟨e, e1⟩⟩ := compactW_out o hs (o.length - 1) 1 many (by omega) (by omega) h1 (by omega)
    · have e' : iterO compactW_s0 many (o, (1 : Int), ()) = _ := e
      simp only [e']
      exact ⟨a, rfl, e1⟩
    · have e' : iterO compactW_s0 many (o, (1 : Int), ()) = _ := e
      simp only [e', e1]
      exact ⟨o, by rw [dlen_l], by simp⟩
end Go.Pev.Pl
end
section
namespace Go.Pev.Pl
theorem sorted_perm (xs : List Int) : (sorted xs).Perm xs := List.mergeSort_perm _ _
theorem sorted_len (xs : List Int) : (sorted xs).length = xs.length := (sorted_perm xs).length_eq
theorem sorted_le (xs : List Int) : (sorted xs).Pairwise (· ≤ ·) := by
  have := List.pairwise_mergeSort (le := fun x y : Int => decide (x ≤ y)) (fun a b c h1 h2 => by simp at *; omega) (fun a b => by simp; omega) xs
  simpa [sorted] using this
theorem sq_sorted (xs : List Int) : sq (sorted xs) (sorted xs).length = ups xs := by
  refine up_unique (sq_up _ (fun i hi => ?_) _ (Nat.le_refl _)) (up_ups xs) fun z => ?_
  · have := List.pairwise_iff_getElem.1 (sorted_le xs) i (i + 1) (by omega) hi (by omega)
    simpa [List.getD_eq_getElem?_getD, hi, show i < (sorted xs).length by omega] using this
  · rw [sq_mem, mem_ups, ← (sorted_perm xs).mem_iff]
    constructor
    · rintro ⟨k, hk, rfl⟩
      simp [hk]
    · intro h
      obtain ⟨k, hk, e⟩ := List.getElem_of_mem h
      exact ⟨k, hk, by simp [hk, e]⟩

theorem rising_val (xs : List Int) (h : xs.length < 4294967296) : rising (xs, ()) = some (ups xs, ()) := by
  rw [rising_eq, rising_d, cloneF_val (by omega)]
  simp only [sortW_val xs h]
  obtain ⟨a, e, e1⟩ := compactW_val (sorted xs) (by rw [sorted_len]; exact h)
  simp only [e, dnat_l, dtake]
  rw [e1, sq_sorted]

theorem insU_at (x : Int) (l : List Int) : insU x l = if l[(l.takeWhile (fun y => decide (y < x))).length]? = some x then l else
    l.take (l.takeWhile (fun y => decide (y < x))).length ++ [x] ++ l.drop (l.takeWhile (fun y => decide (y < x))).length := by
  induction l with
  | nil => rfl
  | cons y ys ih =>
    rw [insU]
    by_cases h : y < x
    · rw [if_pos h, List.takeWhile_cons_of_pos (by simpa using h)]
      simp only [List.length_cons, List.getElem?_cons_succ, List.take_succ_cons, List.drop_succ_cons]
      rw [ih]
      split <;> simp
    · rw [if_neg h, List.takeWhile_cons_of_neg (by simpa using h)]
      simp
theorem insU_len (x : Int) (l : List Int) : (insU x l).length ≤ l.length + 1 := by
  induction l with
  | nil => simp [insU]
  | cons y ys ih =>
    rw [insU]
    split
    · simp; omega
    · split <;> simp
theorem ups_snoc (xs : List Int) (x : Int) : ups (xs ++ [x]) = insU x (ups xs) := by simp [ups, List.foldl_append]
theorem ups_len (xs : List Int) : (ups xs).length ≤ xs.length := by
  suffices h : ∀ (xs out : List Int), (xs.foldl (fun out x => insU x out) out).length ≤ out.length + xs.length by
    have := h xs []
    simpa [ups] using this
  intro xs
  induction xs with
  | nil => intro out; simp
  | cons x xs ih =>
    intro out
    have h1 := ih (insU x out)
    have h2 := insU_len x out
    simp only [List.foldl_cons, List.length_cons]
    omega

theorem rising12_in (xs out : List Int) (i : Nat) (hi : i < xs.length) (ho : out.length < 4294967296) : ∀ (m k n : Nat), out.length - k = m → k ≤ out.length → m < n →
    iterO rising12_s1 n (xs, out, (i : Int), (k : Int), ()) = some (.inl (xs, out, (i : Int), ((k + ((out.drop k).takeWhile (fun y => decide (y < xs.getD i 0))).length : Nat) : Int), ())) := by
  intro m
  induction m with
  | zero =>
    intro k n hk hle hn
    obtain ⟨n, rfl⟩ : ∃ k, n = k + 1 := ⟨n - 1, by omega⟩
    rw [iterO, rising12_s1]
    simp only [dlen_l, ilt_nat]
    rw [decide_eq_false (by omega), List.drop_eq_nil_of_le (by omega)]
    rfl
  | succ m ih =>
    intro k n hk hle hn
    obtain ⟨n, rfl⟩ : ∃ k, n = k + 1 := ⟨n - 1, by omega⟩
    have hk2 : k < out.length := by omega
    rw [iterO, rising12_s1]
    simp (disch := omega) only [dlen_l, idx_l (0 : Int), dget_l, wrap_add1, ilt_eq]
    rw [decide_eq_true (show (k : Int) < (out.length : Int) by omega)]
    have hd : out.drop k = out.getD k 0 :: out.drop (k + 1) := by
      rw [List.drop_eq_getElem_cons hk2]
      simp [hk2]
    rw [hd]
    by_cases h : out.getD k 0 < xs.getD i 0
    · rw [List.takeWhile_cons_of_pos (by simpa using h)]
      simp only [h, decide_true]
      rw [ih (k + 1) n (by omega) (by omega) (by omega)]
      simp only [List.length_cons]
      congr 6
      omega
    · rw [List.takeWhile_cons_of_neg (by simpa using h)]
      simp only [h, decide_false]
      rfl

theorem rising12_out (xs : List Int) (hs : xs.length < 2147483648) : ∀ (m i n : Nat), xs.length - i = m → i ≤ xs.length → m < n →
    iterO rising12_s0 n (xs, ups (xs.take i), (i : Int), ()) = some (.inl (ups xs, ())) := by
  have hm : 4294967296 < many := by simp only [many]; omega
  intro m
  induction m with
  | zero =>
    intro i n hk hle hn
    obtain ⟨n, rfl⟩ : ∃ k, n = k + 1 := ⟨n - 1, by omega⟩
    rw [iterO, rising12_s0]
    simp only [dlen_l, ilt_nat]
    rw [decide_eq_false (by omega), List.take_of_length_le (by omega)]
  | succ m ih =>
    intro i n hk hle hn
    obtain ⟨n, rfl⟩ : ∃ k, n = k + 1 := ⟨n - 1, by omega⟩
    have hi : i < xs.length := by omega
    have hu := ups_len (xs.take i)
    rw [List.length_take] at hu
    have hsn : ups (xs.take (i + 1)) = insU (xs.getD i 0) (ups (xs.take i)) := by
      rw [← ups_snoc, List.take_succ_eq_append_getElem hi]
      simp [hi]
    have hnext := ih (i + 1) n (by omega) (by omega) (by omega)
    rw [hsn] at hnext
    rw [iterO, rising12_s0]
    simp only [dlen_l, ilt_nat, iterL_eq]
    rw [decide_eq_true hi]
    generalize ups (xs.take i) = out at *
    have e0 := rising12_in xs out i hi (by omega) out.length 0 many (by omega) (by omega) (by omega)
    have e0' : iterO rising12_s1 many (xs, out, (i : Int), (0 : Int), ()) = _ := e0
    simp only [e0']
    rw [insU_at] at hnext
    simp only [List.drop_zero, Nat.zero_add] at *
    have hp : (out.takeWhile (fun y => decide (y < xs.getD i 0))).length ≤ out.length := (List.takeWhile_prefix _).length_le
    generalize (out.takeWhile (fun y => decide (y < xs.getD i 0))).length = p at *
    simp (disch := omega) only [idx_l (0 : Int), dget_l, wrap_add1, ilt_nat]
    have s0 : subl out (0 : Int) (p : Int) = some ((out.take p).drop 0) := subl_l (l := 0) (by omega) hp
    have c0 : dcut 0 p out = out.take p := by simp [dcut]
    have c1 : dcut p (out.length - p) out = out.drop p := by rw [dcut, List.take_of_length_le (by simp)]
    have l0 : (out.take p).length = p := by rw [List.length_take]; omega
    by_cases h : p < out.length
    · rw [decide_eq_true h]
      simp (disch := omega) only [idx_l (0 : Int), ieq_eq]
      by_cases h2 : out.getD p 0 = xs.getD i 0
      · rw [if_pos (by simp [h] at h2 ⊢; exact h2)] at hnext
        rw [h2]
        simp only [BEq.rfl]
        exact hnext
      · rw [if_neg (by simp [h] at h2 ⊢; exact h2)] at hnext
        rw [show (out.getD p 0 == xs.getD i 0) = false by simpa using h2]
        simp (disch := omega) only [s0, List.drop_zero, dlen_l, l0, dnat_l, c0, subl_l, List.take_length, List.length_drop, c1, idx_l (0 : Int), dapp, List.nil_append, List.length_append, List.length_cons, List.length_nil, fits_l]
        exact hnext
    · rw [decide_eq_false h]
      rw [if_neg (by simp [show out.length ≤ p by omega])] at hnext
      simp (disch := omega) only [s0, List.drop_zero, dlen_l, l0, dnat_l, c0, subl_l, List.take_length, List.length_drop, c1, idx_l (0 : Int), dapp, List.nil_append, List.length_append, List.length_cons, List.length_nil, fits_l]
      exact hnext

theorem rising12_val (xs : List Int) (h : xs.length < 2147483648) : rising12 (xs, ()) = some (ups xs, ()) := by
  have hm : 4294967296 < many := by simp only [many]; omega
  rw [rising12_eq, rising12_d]
  simp only [iterL_eq]
  have e := rising12_out xs h xs.length 0 many (by omega) (by omega) (by omega)
  have e' : iterO rising12_s0 many (xs, [], (0 : Int), ()) = _ := e
  rw [e']
end Go.Pev.Pl
end
section
namespace Go.Pev.Pl
theorem sized_val (b : Int) : sized (b, ()) = some (decide (1 ≤ b ∧ b ≤ 10), ()) := by
  rw [sized_eq, sized_d, ile_eq, ile_eq]
  by_cases h : 1 ≤ b <;> simp [h]

/-- a key's home -/
def H (b : Nat) (k : Int) : Nat := (k * 2654435761 % 4294967296 / 2 ^ (32 - b)).toNat
theorem H_int (b : Nat) (k : Int) : ((H b k : Nat) : Int) = k * 2654435761 % 4294967296 / 2 ^ (32 - b) := by
  rw [H, Int.toNat_of_nonneg]
  exact Int.ediv_nonneg (Int.emod_nonneg _ (by omega)) (Int.pow_nonneg (by omega))
theorem H_lt (b : Nat) (k : Int) (hb : b ≤ 10) : H b k < 2 ^ b := by
  have h1 := H_int b k
  have h2 : k * 2654435761 % 4294967296 / 2 ^ (32 - b) < 2 ^ b := by
    apply Int.ediv_lt_of_lt_mul (Int.pow_pos (by omega))
    rw [← Int.pow_add, show b + (32 - b) = 32 by omega]
    exact Int.emod_lt_of_pos _ (by omega)
  rw [← h1] at h2
  have h3 : ((2 : Int) ^ b) = ((2 ^ b : Nat) : Int) := by simp
  rw [h3] at h2
  omega

theorem home_val (b : Nat) (k : Int) (h1 : 1 ≤ b) (h2 : b ≤ 10) : home ((b : Int), k, ()) = some (((H b k : Nat) : Int), ()) := by
  have hl := H_lt b k h2
  have h10 : 2 ^ b ≤ 2 ^ 10 := Nat.pow_le_pow_right (by omega) h2
  rw [home_eq, home_d, sized_val, decide_eq_true (by omega)]
  simp only [Bool.not_true]
  rw [wrap_in (by omega), u64_in (by omega), show (32 : Int) - (b : Int) = ((32 - b : Nat) : Int) by omega]
  rw [shr_eq, shrR, if_neg (by omega), Int.toNat_natCast, show min (32 - b) (IntKind.bits .u32) = 32 - b from Nat.min_eq_left (by show 32 - b ≤ 32; omega), Int.fdiv_eq_ediv_of_nonneg _ (Int.pow_nonneg (by omega)), IntKind.wrap_u32, ← H_int]
  simp only []
  rw [wrap_in (by omega)]
theorem home_bad (b : Int) (k : Int) (h : ¬ (1 ≤ b ∧ b ≤ 10)) : home (b, k, ()) = some (-1, ()) := by
  rw [home_eq, home_d, sized_val, decide_eq_false h]
  rfl

theorem home12_loop (b : Nat) (h2 : b ≤ 10) : ∀ (k i x n : Nat), i + k = 32 - b → x < 4294967296 → k < n →
    iterO home12_s0 n ((b : Int), (x : Int), (i : Int), ()) = some (.inl (((x / 2 ^ k : Nat) : Int), ())) := by
  intro k
  induction k with
  | zero =>
    intro i x n hk hx hn
    obtain ⟨n, rfl⟩ : ∃ k, n = k + 1 := ⟨n - 1, by omega⟩
    rw [iterO, home12_s0, ilt_eq, wrap_in (by omega), decide_eq_false (by omega)]
    simp
  | succ k ih =>
    intro i x n hk hx hn
    obtain ⟨n, rfl⟩ : ∃ k, n = k + 1 := ⟨n - 1, by omega⟩
    rw [iterO, home12_s0, ilt_eq, wrap_in (by omega), decide_eq_true (by omega)]
    have e : quo? .u64 (x : Int) 2 = some ((x / 2 : Nat) : Int) := by
      rw [quo_eq, quoR, if_neg (by omega), Int.tdiv_eq_ediv_of_nonneg (by omega), u64_in (by omega)]; rfl
    simp (disch := omega) only [e, wrap_add1]
    rw [ih (i + 1) (x / 2) n (by omega) (by omega) (by omega), Nat.div_div_eq_div_mul, ← Nat.pow_succ']

theorem H_nat (b : Nat) (k : Int) (x : Nat) (hx : k * 2654435761 % 4294967296 = (x : Int)) : x / 2 ^ (32 - b) = H b k := by
  have := H_int b k
  rw [hx] at this
  have h3 : ((2 : Int) ^ (32 - b)) = ((2 ^ (32 - b) : Nat) : Int) := by simp
  rw [h3, ← Int.natCast_ediv] at this
  exact (Int.ofNat.inj this).symm
theorem home12_val (b : Nat) (k : Int) (h1 : 1 ≤ b) (h2 : b ≤ 10) (hk : 0 ≤ k ∧ k ≤ 4294967295) : home12 ((b : Int), k, ()) = some (((H b k : Nat) : Int), ()) := by
  have hm : 4294967296 < many := by simp only [many]; omega
  have hl := H_lt b k h2
  have h10 : 2 ^ b ≤ 2 ^ 10 := Nat.pow_le_pow_right (by omega) h2
  obtain ⟨x, hx⟩ : ∃ x : Nat, k * 2654435761 % 4294967296 = (x : Int) := Int.eq_ofNat_of_zero_le (Int.emod_nonneg _ (by decide))
  have hr : rem? (k * 2654435761) 4294967296 = some (x : Int) := by
    rw [rem_eq, remR, if_neg (by omega), Int.tmod_eq_emod_of_nonneg (by omega), hx]
  have hx2 : x < 4294967296 := by
    have := Int.emod_lt_of_pos (k * 2654435761) (show (0 : Int) < 4294967296 by decide)
    rw [hx] at this
    omega
  have e := home12_loop b h2 (32 - b) 0 x many (by omega) hx2 (by omega)
  rw [H_nat b k x hx] at e
  have e' : iterO home12_s0 many ((b : Int), (x : Int), (0 : Int), ()) = _ := e
  rw [home12_eq, home12_d, ilt_eq, ilt_eq, decide_eq_false (by omega), decide_eq_false (by omega)]
  simp only []
  rw [u64_in (n := k) (by omega), u64_in (n := k * 2654435761) (by omega)]
  simp only [hr, iterL_eq, e']
  rw [wrap_in (by omega)]
theorem home12_bad (b : Int) (k : Int) (h : ¬ (1 ≤ b ∧ b ≤ 10)) : home12 (b, k, ()) = some (-1, ()) := by
  rw [home12_eq, home12_d, ilt_eq, ilt_eq]
  by_cases h1 : b < 1
  · rw [decide_eq_true h1]
  · rw [decide_eq_false h1, decide_eq_true (by omega)]

/-- how far one goes, round a row of n places from p, to a place at which it is over -/
def way (stop : Nat → Bool) (n p : Nat) : Nat → Nat
  | 0 => 0
  | m + 1 => if stop p then 0 else 1 + way stop n ((p + 1) % n) m

theorem way_stop {stop : Nat → Bool} {n : Nat} (hn : 0 < n) : ∀ (m p : Nat), p < n → (∃ j, j < m ∧ stop ((p + j) % n) = true) →
    way stop n p m < m ∧ stop ((p + way stop n p m) % n) = true ∧ ∀ j, j < way stop n p m → stop ((p + j) % n) = false := by
  intro m
  induction m with
  | zero => rintro p _ ⟨j, h, _⟩; omega
  | succ m ih =>
    rintro p hp ⟨j, hj, hs⟩
    rw [way]
    by_cases h : stop p = true
    · rw [if_pos h]
      exact ⟨by omega, by rw [Nat.add_zero, Nat.mod_eq_of_lt hp]; exact h, fun j hj => by omega⟩
    · rw [if_neg h]
      have hj0 : j ≠ 0 := fun e => by
        subst e
        rw [Nat.add_zero, Nat.mod_eq_of_lt hp] at hs
        exact h hs
      have sh : ∀ i, ((p + 1) % n + i) % n = (p + (1 + i)) % n := fun i => by rw [Nat.mod_add_mod, Nat.add_assoc]
      obtain ⟨q1, q2, q3⟩ := ih ((p + 1) % n) (Nat.mod_lt _ hn) ⟨j - 1, by omega, by rw [sh, show 1 + (j - 1) = j by omega]; exact hs⟩
      rw [sh] at q2
      refine ⟨by omega, q2, fun i hi => ?_⟩
      by_cases h0 : i = 0
      · subst h0
        rw [Nat.add_zero, Nat.mod_eq_of_lt hp]
        simpa using h
      · have := q3 (i - 1) (by omega)
        rw [sh, show 1 + (i - 1) = i by omega] at this
        exact this
/-- it hangs only on what is looked at -/
theorem way_congr {s t : Nat → Bool} {n : Nat} (hn : 0 < n) (h : ∀ p, p < n → s p = t p) : ∀ (m p : Nat), p < n → way s n p m = way t n p m := by
  intro m
  induction m with
  | zero => intro p _; rfl
  | succ m ih =>
    intro p hp
    rw [way, way, h p hp, ih _ (Nat.mod_lt _ hn)]

theorem and_mask (p b : Nat) (hp : p + 1 < 9223372036854775808) (hb : b ≤ 10) : IntKind.wrap .i64 ((BitVec.ofInt (IntKind.bits .i64) ((p + 1 : Nat) : Int) &&& BitVec.ofInt (IntKind.bits .i64) ((2 ^ b - 1 : Nat) : Int)).toNat) = (((p + 1) % 2 ^ b : Nat) : Int) := by
  have h10 : 2 ^ b ≤ 2 ^ 10 := Nat.pow_le_pow_right (by omega) hb
  have h1 : 0 < 2 ^ b := Nat.two_pow_pos b
  have hlt : (p + 1) % 2 ^ b < 2 ^ b := Nat.mod_lt _ h1
  rw [BitVec.toNat_and, BitVec.ofInt_natCast, BitVec.ofInt_natCast, BitVec.toNat_ofNat, BitVec.toNat_ofNat,
    Nat.mod_eq_of_lt (a := p + 1) (by show p + 1 < 18446744073709551616; omega), Nat.mod_eq_of_lt (a := 2 ^ b - 1) (by show 2 ^ b - 1 < 18446744073709551616; omega), Nat.and_two_pow_sub_one_eq_mod, wrap_in (by omega)]

/-- at which places probe stops -/
def stopP (c : List Int) (f : List Bool) (k : Int) (p : Nat) : Bool := !(f.getD p false && !(c.getD p 0 == k))

theorem probe_loop (k bb : Int) (c : List Int) (f : List Bool) (b : Nat) (hb : b ≤ 10) (hc : c.length = 2 ^ b) (hf : f.length = 2 ^ b) : ∀ (m p l n : Nat), p < 2 ^ b → l + m < 4294967296 → (∃ j, j < m ∧ stopP c f k ((p + j) % 2 ^ b) = true) → m < n →
    iterO probe_s0 n (k, bb, c, f, (p : Int), (l : Int), ((2 ^ b - 1 : Nat) : Int), ()) = some (.inl ((((p + way (stopP c f k) (2 ^ b) p m) % 2 ^ b : Nat) : Int), ((l + way (stopP c f k) (2 ^ b) p m : Nat) : Int), ())) := by
  have h10 : 2 ^ b ≤ 2 ^ 10 := Nat.pow_le_pow_right (by omega) hb
  have h1 : 0 < 2 ^ b := Nat.two_pow_pos b
  intro m
  induction m with
  | zero => rintro p l n _ _ ⟨j, h, _⟩; omega
  | succ m ih =>
    rintro p l n hp hl hex hn
    obtain ⟨n, rfl⟩ : ∃ k, n = k + 1 := ⟨n - 1, by omega⟩
    rw [iterO, probe_s0, way]
    rw [idx_l false (by omega)]
    simp only []
    by_cases hs : stopP c f k p = true
    · rw [if_pos hs]
      simp only [Nat.add_zero, Nat.mod_eq_of_lt hp]
      rw [stopP] at hs
      cases hfp : f.getD p false
      · rfl
      · rw [hfp] at hs
        simp only [Bool.true_and, Bool.not_not] at hs
        simp (disch := omega) only [idx_l (0 : Int), ieq_eq, hs, Bool.not_true]
    · rw [if_neg hs]
      rw [stopP] at hs
      cases hfp : f.getD p false
      · rw [hfp] at hs; simp at hs
      · rw [hfp] at hs
        simp only [Bool.true_and, Bool.not_not, Bool.not_eq_true] at hs
        simp (disch := omega) only [idx_l (0 : Int), ieq_eq, hs, Bool.not_false, wrap_add1]
        rw [and_mask p b (by omega) hb]
        obtain ⟨j, hj, hsj⟩ := hex
        have hj0 : j ≠ 0 := fun e => by
          subst e
          rw [Nat.add_zero, Nat.mod_eq_of_lt hp, stopP, hfp, hs] at hsj
          cases hsj
        have sh : ∀ i, ((p + 1) % 2 ^ b + i) % 2 ^ b = (p + (1 + i)) % 2 ^ b := fun i => by rw [Nat.mod_add_mod, Nat.add_assoc]
        rw [ih ((p + 1) % 2 ^ b) (l + 1) n (Nat.mod_lt _ h1) (by omega) ⟨j - 1, by omega, by rw [sh, show 1 + (j - 1) = j by omega]; exact hsj⟩ (by omega), sh, Nat.add_assoc l]

/-- where a key stands, or would, and how far from its home -/
def far (b : Nat) (c : List Int) (f : List Bool) (k : Int) : Nat := way (stopP c f k) (2 ^ b) (H b k) (2 ^ b)
def spot (b : Nat) (c : List Int) (f : List Bool) (k : Int) : Nat := (H b k + far b c f k) % 2 ^ b

theorem probe_val (k : Int) (c : List Int) (f : List Bool) (b : Nat) (h1 : 1 ≤ b) (hb : b ≤ 10) (hc : c.length = 2 ^ b) (hf : f.length = 2 ^ b) (hex : ∃ j, j < 2 ^ b ∧ stopP c f k ((H b k + j) % 2 ^ b) = true) :
    probe (((b : Int), (c, (f, ()))), k, ()) = some (((spot b c f k : Nat) : Int), ((1 + far b c f k : Nat) : Int), ()) := by
  have hm : 4294967296 < many := by simp only [many]; omega
  have h10 : 2 ^ b ≤ 2 ^ 10 := Nat.pow_le_pow_right (by omega) hb
  have h0 : 0 < 2 ^ b := Nat.two_pow_pos b
  rw [probe_eq, probe_d]
  simp only [home_val b k h1 hb, iterL_eq, dlen_l, hc]
  have e := probe_loop k (b : Int) c f b hb hc hf (2 ^ b) (H b k) 1 many (H_lt b k hb) (by omega) hex (by omega)
  have e' : iterO probe_s0 many (k, (b : Int), c, f, ((H b k : Nat) : Int), (1 : Int), ((2 ^ b - 1 : Nat) : Int), ()) = _ := e
  rw [wrap_sub1 ⟨h0, by omega⟩]
  simp only [e']
  rfl
end Go.Pev.Pl
end
section
namespace Go.Pev.Pl
abbrev CF := List Int × List Bool
def putT (b : Nat) (t : CF) (k : Int) : CF := (t.1.set (spot b t.1 t.2 k) k, t.2.set (spot b t.1 t.2 k) true)
def noT (b : Nat) : CF := (List.replicate (2 ^ b) 0, List.replicate (2 ^ b) false)
def tab (b : Nat) (l : List Int) : CF := l.foldl (putT b) (noT b)

/-- t holds the keys ks -/
structure Holds12 (b : Nat) (t : CF) (ks : List Int) : Prop where
  lc : t.1.length = 2 ^ b
  lf : t.2.length = 2 ^ b
  cnt : t.2.count true = ks.length
  sub : ∀ p, t.2.getD p false = true → t.1.getD p 0 ∈ ks
  at' : ∀ k ∈ ks, t.2.getD (spot b t.1 t.2 k) false = true ∧ t.1.getD (spot b t.1 t.2 k) 0 = k
  near : ∀ k ∈ ks, far b t.1 t.2 k < 2 ^ b

theorem exists_empty {f : List Bool} {n : Nat} (hf : f.length = n) (h : f.count true < n) : ∃ p, p < n ∧ f.getD p false = false := by
  apply Classical.byContradiction
  intro hno
  have : f.count true = f.length := List.count_eq_length.2 fun x hx => by
    obtain ⟨i, hi, e⟩ := List.getElem_of_mem hx
    cases x with
    | true => rfl
    | false => exact absurd ⟨i, by omega, by simp [hi, e]⟩ hno
  omega

theorem reach12 {b : Nat} {p : Nat} (hb : b ≤ 10) (k : Int) (hp : p < 2 ^ b) : ∃ j, j < 2 ^ b ∧ (H b k + j) % 2 ^ b = p := by
  have h0 : 0 < 2 ^ b := Nat.two_pow_pos b
  have hH := H_lt b k hb
  by_cases h : H b k ≤ p
  · exact ⟨p - H b k, by omega, by rw [Nat.add_sub_cancel' h, Nat.mod_eq_of_lt hp]⟩
  · refine ⟨p + 2 ^ b - H b k, by omega, ?_⟩
    rw [show H b k + (p + 2 ^ b - H b k) = p + 2 ^ b by omega, Nat.add_mod_right, Nat.mod_eq_of_lt hp]

theorem stops12 {b : Nat} {c : List Int} {f : List Bool} (hb : b ≤ 10) (hf : f.length = 2 ^ b) (h : f.count true < 2 ^ b) (k : Int) : ∃ j, j < 2 ^ b ∧ stopP c f k ((H b k + j) % 2 ^ b) = true := by
  obtain ⟨p, hp, e⟩ := exists_empty hf h
  obtain ⟨j, hj, e2⟩ := reach12 hb k hp
  exact ⟨j, hj, by rw [e2, stopP, e]; rfl⟩

theorem spot_lt (b : Nat) (c : List Int) (f : List Bool) (k : Int) : spot b c f k < 2 ^ b := Nat.mod_lt _ (Nat.two_pow_pos b)

theorem spot_stop {b : Nat} {c : List Int} {f : List Bool} {k : Int} (hb : b ≤ 10) (hex : ∃ j, j < 2 ^ b ∧ stopP c f k ((H b k + j) % 2 ^ b) = true) :
    far b c f k < 2 ^ b ∧ stopP c f k (spot b c f k) = true ∧ ∀ j, j < far b c f k → stopP c f k ((H b k + j) % 2 ^ b) = false :=
  way_stop (Nat.two_pow_pos b) _ _ (H_lt b k hb) hex

/-- who stops at j, first, is j -/
theorem far_of {b : Nat} {c : List Int} {f : List Bool} {k : Int} {j : Nat} (hb : b ≤ 10) (hj : j < 2 ^ b) (hs : stopP c f k ((H b k + j) % 2 ^ b) = true) (hn : ∀ i, i < j → stopP c f k ((H b k + i) % 2 ^ b) = false) : far b c f k = j := by
  obtain ⟨q1, q2, q3⟩ := spot_stop hb ⟨j, hj, hs⟩
  rcases Nat.lt_trichotomy (far b c f k) j with h | h | h
  · have := hn _ h
    rw [spot] at q2
    rw [q2] at this
    cases this
  · exact h
  · have := q3 _ h
    rw [hs] at this
    cases this

theorem Holds12.empty {b : Nat} {t : CF} {ks : List Int} (h : Holds12 b t ks) {k : Int} (hk : k ∉ ks) (p : Nat) : stopP t.1 t.2 k p = !t.2.getD p false := by
  rw [stopP]
  cases e : t.2.getD p false
  · rfl
  · have h1 := h.sub p e
    have : (t.1.getD p 0 == k) = false := by
      apply beq_false_of_ne
      intro e2
      rw [e2] at h1
      exact hk h1
    rw [this]
    rfl

theorem noT_holds (b : Nat) : Holds12 b (noT b) [] where
  lc := by simp [noT]
  lf := by simp [noT]
  cnt := by simp [noT, List.count_replicate]
  sub p h := by
    have : (noT b).2.getD p false = false := by
      simp only [noT, List.getD_eq_getElem?_getD, List.getElem?_replicate]
      split <;> rfl
    rw [this] at h
    cases h
  at' k hk := by cases hk
  near k hk := by cases hk

theorem getD_set_eq {α : Type} {xs : List α} {i : Nat} (x z : α) (h : i < xs.length) : (xs.set i x).getD i z = x := by simp [h]
theorem getD_set_ne {α : Type} {xs : List α} {i j : Nat} (x z : α) (h : i ≠ j) : (xs.set i x).getD j z = xs.getD j z := by simp [List.getD_eq_getElem?_getD, List.getElem?_set_ne h]

theorem count_set_true {f : List Bool} {i : Nat} (h : i < f.length) (e : f.getD i false = false) : (f.set i true).count true = f.count true + 1 := by
  rw [List.count_set h]
  have : f[i] = false := by simpa [h] using e
  simp [this]

theorem putT_holds {b : Nat} {t : CF} {ks : List Int} (hb : b ≤ 10) (h : Holds12 b t ks) {k : Int} (hk : k ∉ ks) (hl : ks.length < 2 ^ b) : Holds12 b (putT b t k) (ks ++ [k]) := by
  have hex := stops12 (c := t.1) (k := k) hb h.lf (by rw [h.cnt]; exact hl)
  obtain ⟨q1, q2, q3⟩ := spot_stop hb hex
  have hlt := spot_lt b t.1 t.2 k
  rw [h.empty hk] at q2
  have q2' : t.2.getD (spot b t.1 t.2 k) false = false := by simpa using q2
  have q3' : ∀ j, j < far b t.1 t.2 k → t.2.getD ((H b k + j) % 2 ^ b) false = true := fun j hj => by
    have := q3 j hj
    rw [h.empty hk] at this
    simpa using this
  have hspot : spot b t.1 t.2 k = (H b k + far b t.1 t.2 k) % 2 ^ b := rfl
  have lc : (putT b t k).1.length = 2 ^ b := by simp [putT, h.lc]
  have lf : (putT b t k).2.length = 2 ^ b := by simp [putT, h.lf]
  have fd : ∀ p, (putT b t k).2.getD p false = if spot b t.1 t.2 k = p then true else t.2.getD p false := fun p => by
    by_cases e : spot b t.1 t.2 k = p
    · rw [if_pos e, putT, ← e, getD_set_eq _ _ (by rw [h.lf]; exact hlt)]
    · rw [if_neg e, putT, getD_set_ne _ _ e]
  have cd : ∀ p, (putT b t k).1.getD p 0 = if spot b t.1 t.2 k = p then k else t.1.getD p 0 := fun p => by
    by_cases e : spot b t.1 t.2 k = p
    · rw [if_pos e, putT, ← e, getD_set_eq _ _ (by rw [h.lc]; exact hlt)]
    · rw [if_neg e, putT, getD_set_ne _ _ e]
  have key : ∀ k' ∈ ks ++ [k], ∃ j, j < 2 ^ b ∧ (putT b t k).2.getD ((H b k' + j) % 2 ^ b) false = true ∧ (putT b t k).1.getD ((H b k' + j) % 2 ^ b) 0 = k' ∧
      ∀ i, i < j → stopP (putT b t k).1 (putT b t k).2 k' ((H b k' + i) % 2 ^ b) = false := by
    intro k' hk'
    rcases List.mem_append.1 hk' with h1 | h1
    · have hne : k' ≠ k := fun e => hk (e ▸ h1)
      obtain ⟨a1, a2⟩ := h.at' k' h1
      have hst : ∃ j, j < 2 ^ b ∧ stopP t.1 t.2 k' ((H b k' + j) % 2 ^ b) = true := ⟨_, h.near k' h1, by
        have : stopP t.1 t.2 k' (spot b t.1 t.2 k') = true := by rw [stopP, a1, a2]; simp
        exact this⟩
      obtain ⟨r1, r2, r3⟩ := spot_stop hb hst
      refine ⟨far b t.1 t.2 k', r1, ?_, ?_, fun i hi => ?_⟩
      · rw [fd]; split
        · rfl
        · exact a1
      · rw [cd]; split
        · rename_i e
          have e' : spot b t.1 t.2 k = spot b t.1 t.2 k' := e
          rw [← e', q2'] at a1
          cases a1
        · exact a2
      · have := r3 i hi
        rw [stopP] at this ⊢
        rw [fd, cd]
        by_cases e : spot b t.1 t.2 k = (H b k' + i) % 2 ^ b
        · rw [← e, q2'] at this
          simp at this
        · rw [if_neg e, if_neg e]; exact this
    · rw [List.mem_singleton] at h1
      subst h1
      refine ⟨far b t.1 t.2 k', q1, ?_, ?_, fun i hi => ?_⟩
      · rw [fd, if_pos hspot]
      · rw [cd, if_pos hspot]
      · have h2 := q3' i hi
        have h3 := h.sub _ h2
        have hne : ¬ spot b t.1 t.2 k' = (H b k' + i) % 2 ^ b := fun e => by
          rw [← e, q2'] at h2; cases h2
        rw [stopP, fd, cd, if_neg hne, if_neg hne, h2]
        have : (t.1.getD ((H b k' + i) % 2 ^ b) 0 == k') = false := beq_false_of_ne fun e => by
          rw [e] at h3; exact hk h3
        rw [this]
        rfl
  have farE : ∀ k' ∈ ks ++ [k], ∃ j, far b (putT b t k).1 (putT b t k).2 k' = j ∧ j < 2 ^ b ∧ (putT b t k).2.getD ((H b k' + j) % 2 ^ b) false = true ∧ (putT b t k).1.getD ((H b k' + j) % 2 ^ b) 0 = k' := by
    intro k' hk'
    obtain ⟨j, hj, a1, a2, a3⟩ := key k' hk'
    exact ⟨j, far_of hb hj (by rw [stopP, a1, a2]; simp) a3, hj, a1, a2⟩
  refine ⟨lc, lf, ?_, fun p hp => ?_, fun k' hk' => ?_, fun k' hk' => ?_⟩
  · rw [List.length_append, List.length_singleton, ← h.cnt]
    exact count_set_true (by rw [h.lf]; exact hlt) q2'
  · rw [cd]
    rw [fd] at hp
    split
    · simp
    · rename_i e
      rw [if_neg e] at hp
      exact List.mem_append.2 (.inl (h.sub p hp))
  · obtain ⟨j, e, hj, a1, a2⟩ := farE k' hk'
    rw [spot, e]
    exact ⟨a1, a2⟩
  · obtain ⟨j, e, hj, a1, a2⟩ := farE k' hk'
    rw [e]
    exact hj

theorem foldT_holds {b : Nat} (hb : b ≤ 10) : ∀ (l : List Int) (t : CF) (ks : List Int), Holds12 b t ks → (ks ++ l).Nodup → (ks ++ l).length < 2 ^ b + 1 → Holds12 b (l.foldl (putT b) t) (ks ++ l) := by
  intro l
  induction l with
  | nil => intro t ks h _ _; simpa using h
  | cons x l ih =>
    intro t ks h hn hl
    have e : ks ++ x :: l = (ks ++ [x]) ++ l := by simp
    have hx : x ∉ ks := fun hx => by
      have := (List.nodup_append.1 hn).2.2 x hx x (by simp)
      exact this rfl
    have h1 := putT_holds hb h hx (by simp at hl; omega)
    rw [e] at hn hl ⊢
    exact ih _ _ h1 hn hl

theorem up_nodup {l : List Int} (h : Up l) : l.Nodup := h.imp fun h e => by omega

theorem tab_holds {b : Nat} (hb : b ≤ 10) {l : List Int} (h : Up l) (hl : l.length ≤ 2 ^ b) : Holds12 b (tab b l) l := by
  have := foldT_holds hb l (noT b) [] (noT_holds b) (by simpa using up_nodup h) (by simp; omega)
  rw [List.nil_append] at this
  exact this
end Go.Pev.Pl
end
section
namespace Go.Pev.Pl
def U32s (xs : List Int) : Prop := ∀ x ∈ xs, 0 ≤ x ∧ x ≤ 4294967295
theorem U32s.ups {xs : List Int} (h : U32s xs) : U32s (ups xs) := fun x hx => h x ((mem_ups xs x).1 hx)
theorem getD_mem {xs : List Int} {i : Nat} (h : i < xs.length) : xs.getD i 0 ∈ xs := by simp [h]

theorem take_succ_getD {xs : List Int} {i : Nat} (h : i < xs.length) : xs.take (i + 1) = xs.take i ++ [xs.getD i 0] := by
  rw [List.take_succ_eq_append_getElem h]; simp [h]

section
set_option linter.unusedSectionVars false
variable {b : Nat} (h1 : 1 ≤ b) (hb : b ≤ 10) {l : List Int} (hu : Up l) (hl : l.length < 2 ^ b)
include h1 hb hu hl
theorem new_key {i : Nat} (hi : i < l.length) : l.getD i 0 ∉ l.take i := by
  have hn := up_nodup hu
  intro hm
  have h2 : (l.take (i + 1)).Nodup := hn.sublist (List.take_sublist _ _)
  rw [take_succ_getD hi] at h2
  exact (List.nodup_append.1 h2).2.2 _ hm _ (by simp) rfl

theorem make_loop : ∀ (m i n : Nat) (t : CF), l.length - i = m → i ≤ l.length → Holds12 b t (l.take i) → m < n →
    iterO make_s0 n ((0 : Int), (b : Int), t.1, t.2, l, (l.length : Int), (i : Int), ()) = some (.inl ((0 : Int), (b : Int), ((l.drop i).foldl (putT b) t).1, ((l.drop i).foldl (putT b) t).2, ())) := by
  have h10 : 2 ^ b ≤ 2 ^ 10 := Nat.pow_le_pow_right (by omega) hb
  intro m
  induction m with
  | zero =>
    intro i n t hk hi ht hn
    obtain ⟨n, rfl⟩ : ∃ k, n = k + 1 := ⟨n - 1, by omega⟩
    rw [iterO, make_s0, ilt_nat, decide_eq_false (by omega), List.drop_eq_nil_of_le (by omega)]
    rfl
  | succ m ih =>
    intro i n t hk hi ht hn
    obtain ⟨n, rfl⟩ : ∃ k, n = k + 1 := ⟨n - 1, by omega⟩
    have hi' : i < l.length := by omega
    have hlen : (l.take i).length = i := by rw [List.length_take]; omega
    have hlt := spot_lt b t.1 t.2 (l.getD i 0)
    have ht' := putT_holds hb ht (new_key h1 hb hu hl hi') (by omega)
    rw [← take_succ_getD hi'] at ht'
    rw [iterO, make_s0, ilt_nat, decide_eq_true hi']
    simp only [idx_l (0 : Int) hi', dget_l]
    rw [probe_val _ t.1 t.2 b h1 hb ht.lc ht.lf (stops12 hb ht.lf (by rw [ht.cnt]; omega) _)]
    simp only []
    rw [idx_l (0 : Int) (by rw [ht.lc]; exact hlt)]
    simp only []
    rw [idx_l false (by rw [ht.lf]; exact hlt)]
    simp only [dset_l]
    rw [wrap_add1 (by omega)]
    have e := ih (i + 1) n (putT b t (l.getD i 0)) (by omega) (by omega) ht' (by omega)
    have hd : l.drop i = l.getD i 0 :: l.drop (i + 1) := by rw [List.drop_eq_getElem_cons hi']; simp [hi']
    rw [hd, List.foldl_cons]
    exact e

theorem make12_place (k : Int) (t : CF) (ks : List Int) (ht : Holds12 b t ks) (hk : k ∉ ks) (i : Nat) : ∀ (m p n : Nat), p < 2 ^ b → (∃ j, j < m ∧ stopP t.1 t.2 k ((p + j) % 2 ^ b) = true) → m < n →
    iterO make12_s1 n ((b : Int), (0 : Int), ((2 ^ b : Nat) : Int), l, (b : Int), t.1, t.2, (i : Int), (p : Int), ()) = some (.inl ((b : Int), (0 : Int), ((2 ^ b : Nat) : Int), l, (b : Int), t.1, t.2, (i : Int), (((p + way (stopP t.1 t.2 k) (2 ^ b) p m) % 2 ^ b : Nat) : Int), ())) := by
  have h10 : 2 ^ b ≤ 2 ^ 10 := Nat.pow_le_pow_right (by omega) hb
  have h0 : 0 < 2 ^ b := Nat.two_pow_pos b
  intro m
  induction m with
  | zero => rintro p n _ ⟨j, h, _⟩; omega
  | succ m ih =>
    rintro p n hp hex hn
    obtain ⟨n, rfl⟩ : ∃ k, n = k + 1 := ⟨n - 1, by omega⟩
    rw [iterO, make12_s1, way]
    rw [idx_l false (by rw [ht.lf]; exact hp)]
    simp only [dget_l]
    by_cases hs : stopP t.1 t.2 k p = true
    · rw [if_pos hs]
      rw [ht.empty hk] at hs
      have hs' : t.2.getD p false = false := by simpa using hs
      simp only [hs', Nat.add_zero, Nat.mod_eq_of_lt hp]
    · rw [if_neg hs]
      obtain ⟨j, hj, hsj⟩ := hex
      have hj0 : j ≠ 0 := fun e => by
        subst e
        rw [Nat.add_zero, Nat.mod_eq_of_lt hp] at hsj
        exact hs hsj
      rw [ht.empty hk] at hs
      have hs' : t.2.getD p false = true := by simpa using hs
      have hr : rem? (((p + 1 : Nat)) : Int) ((2 ^ b : Nat) : Int) = some (((p + 1) % 2 ^ b : Nat) : Int) := by
        rw [rem_eq, remR, if_neg (by omega), Int.tmod_eq_emod_of_nonneg (by omega)]
        rfl
      rw [wrap_add1 (by omega)]
      simp only [hs', hr]
      have sh : ∀ i, ((p + 1) % 2 ^ b + i) % 2 ^ b = (p + (1 + i)) % 2 ^ b := fun i => by rw [Nat.mod_add_mod, Nat.add_assoc]
      rw [ih ((p + 1) % 2 ^ b) n (Nat.mod_lt _ h0) ⟨j - 1, by omega, by rw [sh, show 1 + (j - 1) = j by omega]; exact hsj⟩ (by omega), sh]

theorem make12_loop (hw : U32s l) : ∀ (m i n : Nat) (t : CF), l.length - i = m → i ≤ l.length → Holds12 b t (l.take i) → m < n →
    iterO make12_s0 n ((b : Int), (0 : Int), ((2 ^ b : Nat) : Int), l, (b : Int), t.1, t.2, (i : Int), ()) = some (.inl ((0 : Int), (b : Int), ((l.drop i).foldl (putT b) t).1, ((l.drop i).foldl (putT b) t).2, ())) := by
  have hm : 4294967296 < many := by simp only [many]; omega
  have h10 : 2 ^ b ≤ 2 ^ 10 := Nat.pow_le_pow_right (by omega) hb
  intro m
  induction m with
  | zero =>
    intro i n t hk hi ht hn
    obtain ⟨n, rfl⟩ : ∃ k, n = k + 1 := ⟨n - 1, by omega⟩
    rw [iterO, make12_s0, dlen_l, ilt_nat, decide_eq_false (by omega), List.drop_eq_nil_of_le (by omega)]
    rfl
  | succ m ih =>
    intro i n t hk hi ht hn
    obtain ⟨n, rfl⟩ : ∃ k, n = k + 1 := ⟨n - 1, by omega⟩
    have hi' : i < l.length := by omega
    have hlen : (l.take i).length = i := by rw [List.length_take]; omega
    have hlt := spot_lt b t.1 t.2 (l.getD i 0)
    have hnew := new_key h1 hb hu hl hi'
    have ht' := putT_holds hb ht hnew (by omega)
    rw [← take_succ_getD hi'] at ht'
    rw [iterO, make12_s0, dlen_l, ilt_nat, decide_eq_true hi']
    simp only [idx_l (0 : Int) hi', dget_l]
    rw [home12_val b _ h1 hb (hw _ (getD_mem hi'))]
    simp only [iterL_eq]
    rw [make12_place h1 hb hu hl (l.getD i 0) t (l.take i) ht hnew i (2 ^ b) (H b (l.getD i 0)) many (H_lt b _ hb) (stops12 hb ht.lf (by rw [ht.cnt]; omega) _) (by omega)]
    have hsp : (H b (l.getD i 0) + way (stopP t.1 t.2 (l.getD i 0)) (2 ^ b) (H b (l.getD i 0)) (2 ^ b)) % 2 ^ b = spot b t.1 t.2 (l.getD i 0) := rfl
    simp only [hsp]
    rw [idx_l (0 : Int) hi']
    simp only []
    rw [idx_l (0 : Int) (by rw [ht.lc]; exact hlt)]
    simp only []
    rw [idx_l false (by rw [ht.lf]; exact hlt)]
    simp only [dset_l, dget_l]
    rw [wrap_add1 (by omega)]
    have e := ih (i + 1) n (putT b t (l.getD i 0)) (by omega) (by omega) ht' (by omega)
    have hd : l.drop i = l.getD i 0 :: l.drop (i + 1) := by rw [List.drop_eq_getElem_cons hi']; simp [hi']
    rw [hd, List.foldl_cons]
    exact e
end

/-- what Make answers -/
def mkOut (b : Int) (xs : List Int) : Int × List Int × List Bool × Int × Unit :=
  if 1 ≤ b ∧ b ≤ 10 then
    if 2 ^ b.toNat * 3 / 4 < (ups xs).length then (0, [], [], 2, ()) else (b, (tab b.toNat (ups xs)).1, (tab b.toNat (ups xs)).2, 0, ())
  else (0, [], [], 1, ())

theorem shl_1 (b : Nat) (hb : b ≤ 10) : shl? .i64 (1 : Int) (IntKind.wrap .u64 (b : Int)) = some ((2 ^ b : Nat) : Int) := by
  have h0 := Nat.two_pow_pos b
  have h10 : 2 ^ b ≤ 2 ^ 10 := Nat.pow_le_pow_right (by omega) hb
  have e : ((2 : Int) ^ b) = ((2 ^ b : Nat) : Int) := by simp
  rw [u64_in (by omega), shl_eq, shlR, if_neg (by omega), Int.toNat_natCast, show min b (IntKind.bits .i64) = b from Nat.min_eq_left (by show b ≤ 64; omega), Int.one_mul, e, wrap_in (by omega)]
theorem shr_i64 (n s : Nat) (h : s ≤ 64) : shr? .i64 (n : Int) (s : Int) = some ((n / 2 ^ s : Nat) : Int) := by
  rw [shr_eq, shrR, if_neg (by omega), Int.toNat_natCast, show min s (IntKind.bits .i64) = s from Nat.min_eq_left h, Int.fdiv_eq_ediv_of_nonneg _ (Int.pow_nonneg (by omega))]
  rfl
theorem fitsI_l {n : Int} (h : 0 ≤ n ∧ n ≤ 4294967296) : fitsI n = true := (fitsI_iff n).2 h

theorem pow_fact {b : Nat} (h1 : 1 ≤ b) (hb : b ≤ 10) : 2 ^ b / 2 ^ 1 + 2 ^ b / 2 ^ 2 = 2 ^ b * 3 / 4 ∧ 2 ^ b ≤ 1024 ∧ 2 ^ b * 3 / 4 < 2 ^ b := by
  have : ∀ b : Fin 11, 1 ≤ b.val → 2 ^ b.val / 2 ^ 1 + 2 ^ b.val / 2 ^ 2 = 2 ^ b.val * 3 / 4 ∧ 2 ^ b.val ≤ 1024 ∧ 2 ^ b.val * 3 / 4 < 2 ^ b.val := by decide
  exact this ⟨b, by omega⟩ h1

theorem make_val (b : Int) (xs : List Int) (hs : xs.length < 2147483648) : make (b, xs, ()) = some (mkOut b xs) := by
  have hm : 4294967296 < many := by simp only [many]; omega
  rw [make_eq, make_d, sized_val, mkOut]
  by_cases h : 1 ≤ b ∧ b ≤ 10
  · obtain ⟨b, rfl⟩ : ∃ n : Nat, b = (n : Int) := ⟨b.toNat, by omega⟩
    obtain ⟨f1, f2, f3⟩ := pow_fact (b := b) (by omega) (by omega)
    rw [decide_eq_true h, if_pos h]
    have e1 : shr? .i64 ((2 ^ b : Nat) : Int) (1 : Int) = some ((2 ^ b / 2 ^ 1 : Nat) : Int) := shr_i64 (2 ^ b) 1 (by omega)
    have e2 : shr? .i64 ((2 ^ b : Nat) : Int) (2 : Int) = some ((2 ^ b / 2 ^ 2 : Nat) : Int) := shr_i64 (2 ^ b) 2 (by omega)
    simp only [Bool.not_true, shl_1 b (by omega), rising_val xs (by omega), e1, e2, Int.toNat_natCast]
    rw [wrap_add (by omega), f1, dlen_l, ilt_nat]
    by_cases h2 : 2 ^ b * 3 / 4 < (ups xs).length
    · rw [decide_eq_true h2, if_pos h2]
    · rw [decide_eq_false h2, if_neg h2]
      simp only [fitsI_l (show (0 : Int) ≤ ((2 ^ b : Nat) : Int) ∧ ((2 ^ b : Nat) : Int) ≤ 4294967296 by omega), ile_nat, Nat.le_refl, decide_true, Bool.and_true, dnat_l, drep, iterL_eq]
      have e := make_loop (b := b) (by omega) (by omega) (up_ups xs) (by omega) (ups xs).length 0 many (noT b) (by omega) (by omega) (noT_holds b) (by omega)
      have e' : iterO make_s0 many ((0 : Int), (b : Int), List.replicate (2 ^ b) (0 : Int), List.replicate (2 ^ b) false, ups xs, ((ups xs).length : Int), (0 : Int), ()) = _ := e
      simp only [e']
      rfl
  · rw [decide_eq_false h, if_neg h]
    rfl

theorem make12_val (b : Int) (xs : List Int) (hs : xs.length < 2147483648) (hw : U32s xs) : make12 (b, xs, ()) = some (mkOut b xs) := by
  have hm : 4294967296 < many := by simp only [many]; omega
  rw [make12_eq, make12_d, ilt_eq, ilt_eq, mkOut]
  by_cases h : 1 ≤ b ∧ b ≤ 10
  · obtain ⟨b, rfl⟩ : ∃ n : Nat, b = (n : Int) := ⟨b.toNat, by omega⟩
    obtain ⟨f1, f2, f3⟩ := pow_fact (b := b) (by omega) (by omega)
    rw [decide_eq_false (by omega), decide_eq_false (by omega), if_pos h]
    have e3 : IntKind.wrap .i64 (((2 ^ b : Nat) : Int) * 3) = ((2 ^ b * 3 : Nat) : Int) := wrap_mul3 (by omega)
    simp only [shl_1 b (by omega), rising12_val xs hs, e3, Int.toNat_natCast, quo_4 (show 2 ^ b * 3 < 9223372036854775808 by omega), dlen_l, ilt_nat]
    by_cases h2 : 2 ^ b * 3 / 4 < (ups xs).length
    · rw [decide_eq_true h2, if_pos h2]
    · rw [decide_eq_false h2, if_neg h2]
      simp only [fitsI_l (show (0 : Int) ≤ ((2 ^ b : Nat) : Int) ∧ ((2 ^ b : Nat) : Int) ≤ 4294967296 by omega), ile_nat, Nat.le_refl, decide_true, Bool.and_true, dnat_l, drep, iterL_eq]
      have e := make12_loop (b := b) (by omega) (by omega) (up_ups xs) (by omega) hw.ups (ups xs).length 0 many (noT b) (by omega) (by omega) (noT_holds b) (by omega)
      have e' : iterO make12_s0 many ((b : Int), (0 : Int), ((2 ^ b : Nat) : Int), ups xs, (b : Int), List.replicate (2 ^ b) (0 : Int), List.replicate (2 ^ b) false, (0 : Int), ()) = _ := e
      simp only [e']
      rfl
  · rw [if_neg h]
    by_cases h1 : b < 1
    · rw [decide_eq_true h1]
    · rw [decide_eq_false h1, decide_eq_true (by omega)]
end Go.Pev.Pl
end
section
namespace Go.Pev.Pl
/-- a loop that looks for the first place at which P holds -/
theorem scan_rule {σ ρ : Type} {step : σ → Option (σ ⊕ ρ)} (st : Nat → σ) (N : Nat) (P : Nat → Bool) (rt : Nat → ρ) (rf : ρ)
    (h : ∀ i, i < N → step (st i) = if P i then some (.inr (rt i)) else some (.inl (st (i + 1)))) (hN : step (st N) = some (.inr rf)) :
    ∀ (m i n : Nat), N - i = m → i ≤ N → m < n → (∃ k, i ≤ k ∧ k < N ∧ P k = true ∧ (∀ j, i ≤ j → j < k → P j = false) ∧ iterO step n (st i) = some (rt k)) ∨ ((∀ j, i ≤ j → j < N → P j = false) ∧ iterO step n (st i) = some rf) := by
  intro m
  induction m with
  | zero =>
    intro i n hk hi hn
    obtain ⟨n, rfl⟩ : ∃ k, n = k + 1 := ⟨n - 1, by omega⟩
    have e : i = N := by omega
    subst e
    exact .inr ⟨fun j h1 h2 => by omega, by rw [iterO, hN]⟩
  | succ m ih =>
    intro i n hk hi hn
    obtain ⟨n, rfl⟩ : ∃ k, n = k + 1 := ⟨n - 1, by omega⟩
    have hi' : i < N := by omega
    cases hP : P i
    · have e : iterO step (n + 1) (st i) = iterO step n (st (i + 1)) := by rw [iterO, h i hi', hP]; rfl
      rw [e]
      rcases ih (i + 1) n (by omega) (by omega) (by omega) with ⟨k, h1, h2, h3, h4, h5⟩ | ⟨h1, h2⟩
      · refine .inl ⟨k, by omega, h2, h3, fun j a1 a2 => ?_, h5⟩
        by_cases ej : j = i
        · subst ej; exact hP
        · exact h4 j (by omega) a2
      · refine .inr ⟨fun j a1 a2 => ?_, h2⟩
        by_cases ej : j = i
        · subst ej; exact hP
        · exact h1 j (by omega) a2
    · exact .inl ⟨i, Nat.le_refl _, hi', hP, fun j a1 a2 => by omega, by rw [iterO, h i hi', hP]; rfl⟩

theorem scanL {σ ρ : Type} {step : σ → Option (σ ⊕ ρ)} (st : Nat → σ) (N : Nat) (P : Nat → Bool) (rt : Nat → ρ) (rf : ρ) (hs : N < 4294967296)
    (h : ∀ i, i < N → step (st i) = if P i then some (.inr (rt i)) else some (.inl (st (i + 1)))) (hN : step (st N) = some (.inr rf)) :
    (∃ k, k < N ∧ P k = true ∧ (∀ j, j < k → P j = false) ∧ iterL step many (st 0) = some (rt k)) ∨ ((∀ j, j < N → P j = false) ∧ iterL step many (st 0) = some rf) := by
  have hm : 4294967296 < many := by simp only [many]; omega
  rw [iterL_eq]
  rcases scan_rule st N P rt rf h hN N 0 many rfl (by omega) (by omega) with ⟨k, h1, h2, h3, h4, h5⟩ | ⟨h1, h2⟩
  · exact .inl ⟨k, h2, h3, fun j a => h4 j (by omega) a, h5⟩
  · exact .inr ⟨fun j a => h1 j (by omega) a, h2⟩

/-- a loop that adds up -/
theorem foldL {σ ρ α : Type} {step : σ → Option (σ ⊕ ρ)} (st : Nat → α → σ) (N : Nat) (g : Nat → α → α) (r : α → ρ) (I : Nat → α → Prop) (hs : N < 4294967296)
    (h : ∀ i a, i < N → I i a → step (st i a) = some (.inl (st (i + 1) (g i a))) ∧ I (i + 1) (g i a)) (hN : ∀ a, I N a → step (st N a) = some (.inr (r a))) (a : α) (h0 : I 0 a) :
    ∃ z, I N z ∧ iterL step many (st 0 a) = some (r z) ∧ z = (List.range N).foldl (fun a i => g i a) a := by
  have hm : 4294967296 < many := by simp only [many]; omega
  rw [iterL_eq]
  suffices q : ∀ (m i n : Nat) (a : α), N - i = m → i ≤ N → m < n → I i a → ∃ z, I N z ∧ iterO step n (st i a) = some (r z) ∧ z = (List.range' i (N - i)).foldl (fun a i => g i a) a by
    have := q N 0 many a (by omega) (by omega) (by omega) h0
    simpa [List.range_eq_range'] using this
  intro m
  induction m with
  | zero =>
    intro i n a hk hi hn hI
    obtain ⟨n, rfl⟩ : ∃ k, n = k + 1 := ⟨n - 1, by omega⟩
    have e : i = N := by omega
    subst e
    exact ⟨a, hI, by rw [iterO, hN a hI], by simp⟩
  | succ m ih =>
    intro i n a hk hi hn hI
    obtain ⟨n, rfl⟩ : ∃ k, n = k + 1 := ⟨n - 1, by omega⟩
    obtain ⟨e, hI'⟩ := h i a (by omega) hI
    obtain ⟨z, z1, z2, z3⟩ := ih (i + 1) n (g i a) (by omega) (by omega) (by omega) hI'
    refine ⟨z, z1, by rw [iterO, e]; exact z2, ?_⟩
    rw [show N - i = N - (i + 1) + 1 by omega, List.range'_succ, List.foldl_cons]
    exact z3

/- equality of lists -/
theorem eq_of_places {α : Type} {xs ys : List α} (z : α) (hl : xs.length = ys.length) (h : ∀ j, j < xs.length → xs.getD j z = ys.getD j z) : xs = ys := by
  apply List.ext_getElem hl
  intro i h1 h2
  have := h i h1
  simpa [h1, h2] using this
theorem ne_of_place {α : Type} {xs ys : List α} (z : α) {j : Nat} (h : xs.getD j z ≠ ys.getD j z) : xs ≠ ys := fun e => h (by rw [e])
theorem ieq_dlen {α β : Type} (xs : List α) (ys : List β) : ieq (dlen xs) (dlen ys) = decide (xs.length = ys.length) := by rw [dlen_l, dlen_l, ieq_nat]

theorem equalW_val (xs ys : List Int) (hs : xs.length < 4294967296) : equalW (xs, ys, ()) = some (decide (xs = ys), ()) := by
  rw [equalW_eq, equalW_d, ieq_dlen]
  by_cases hl : xs.length = ys.length
  · simp only [hl, decide_true, Bool.not_true, dlen_l]
    rcases scanL (step := equalW_s0) (fun i => (xs, ys, (ys.length : Int), (i : Int), ())) ys.length (fun i => !(xs.getD i 0 == ys.getD i 0)) (fun _ => .inl (false, ())) (.inr (.inl ())) (by omega)
      (fun i hi => by
        rw [equalW_s0]
        simp (disch := omega) only [ilt_nat, hi, decide_true, idx_l (0 : Int), ieq_eq, wrap_add1]
        cases xs.getD i 0 == ys.getD i 0 <;> simp) (by rw [equalW_s0]; simp only [ilt_nat, Nat.lt_irrefl, decide_false]) with ⟨k, hk, hP, _, e⟩ | ⟨hP, e⟩
    · have e' : iterL equalW_s0 many (xs, ys, (ys.length : Int), (0 : Int), ()) = _ := e
      simp only [e']
      rw [decide_eq_false (ne_of_place 0 (j := k) (by simpa using hP))]
    · have e' : iterL equalW_s0 many (xs, ys, (ys.length : Int), (0 : Int), ()) = _ := e
      simp only [e']
      rw [decide_eq_true (eq_of_places 0 hl fun j hj => by simpa using hP j (by omega))]
  · simp only [hl, decide_false, Bool.not_false]
    rw [decide_eq_false fun e => hl (by rw [e])]

theorem equalB_val (xs ys : List Bool) (hs : xs.length < 4294967296) : equalB (xs, ys, ()) = some (decide (xs = ys), ()) := by
  rw [equalB_eq, equalB_d, ieq_dlen]
  by_cases hl : xs.length = ys.length
  · simp only [hl, decide_true, Bool.not_true, dlen_l]
    rcases scanL (step := equalB_s0) (fun i => (xs, ys, (ys.length : Int), (i : Int), ())) ys.length (fun i => !(xs.getD i false == ys.getD i false)) (fun _ => .inl (false, ())) (.inr (.inl ())) (by omega)
      (fun i hi => by
        rw [equalB_s0]
        simp (disch := omega) only [ilt_nat, hi, decide_true, idx_l false, ieq_eq, wrap_add1]
        cases xs.getD i false == ys.getD i false <;> simp) (by rw [equalB_s0]; simp only [ilt_nat, Nat.lt_irrefl, decide_false]) with ⟨k, hk, hP, _, e⟩ | ⟨hP, e⟩
    · have e' : iterL equalB_s0 many (xs, ys, (ys.length : Int), (0 : Int), ()) = _ := e
      simp only [e']
      rw [decide_eq_false (ne_of_place false (j := k) (by simpa using hP))]
    · have e' : iterL equalB_s0 many (xs, ys, (ys.length : Int), (0 : Int), ()) = _ := e
      simp only [e']
      rw [decide_eq_true (eq_of_places false hl fun j hj => by simpa using hP j (by omega))]
  · simp only [hl, decide_false, Bool.not_false]
    rw [decide_eq_false fun e => hl (by rw [e])]

theorem words07_val (xs ys : List Int) (hs : xs.length < 4294967296) : words07 (xs, ys, ()) = some (decide (xs = ys), ()) := by
  rw [words07_eq, words07_d, ieq_dlen]
  by_cases hl : xs.length = ys.length
  · simp only [hl, decide_true, Bool.not_true]
    rcases scanL (step := words07_s0) (fun i => (xs, ys, (i : Int), ())) xs.length (fun i => !(xs.getD i 0 == ys.getD i 0)) (fun _ => .inl (false, ())) (.inr (.inl ())) (by omega)
      (fun i hi => by
        rw [words07_s0]
        simp (disch := omega) only [dlen_l, ilt_nat, hi, decide_true, idx_l (0 : Int), ieq_eq, wrap_add1]
        cases xs.getD i 0 == ys.getD i 0 <;> simp) (by rw [words07_s0]; simp only [dlen_l, ilt_nat, Nat.lt_irrefl, decide_false]) with ⟨k, hk, hP, _, e⟩ | ⟨hP, e⟩
    · have e' : iterL words07_s0 many (xs, ys, (0 : Int), ()) = _ := e
      simp only [e']
      rw [decide_eq_false (ne_of_place 0 (j := k) (by simpa using hP))]
    · have e' : iterL words07_s0 many (xs, ys, (0 : Int), ()) = _ := e
      simp only [e']
      rw [decide_eq_true (eq_of_places 0 hl fun j hj => by simpa using hP j (by omega))]
  · simp only [hl, decide_false, Bool.not_false]
    rw [decide_eq_false fun e => hl (by rw [e])]

theorem same12_val (a b : Int × List Int × List Bool × Unit) (h1 : a.2.1.length < 4294967296) (h2 : a.2.2.1.length < 4294967296) : same12 (a, b, ()) = some (decide (a = b), ()) := by
  obtain ⟨a0, a1, a2, _⟩ := a
  obtain ⟨b0, b1, b2, _⟩ := b
  rw [same12_eq, same12_d, ieq_dlen, ieq_eq]
  simp only at h1 h2 ⊢
  by_cases e0 : a0 = b0
  · subst e0
    simp only [BEq.rfl, Bool.not_true]
    by_cases hl : a2.length = b2.length
    · simp only [hl, decide_true, Bool.not_true]
      rcases scanL (step := same12_s0) (fun i => (a0, a1, a2, a0, b1, b2, (i : Int), ())) a2.length (fun i => !(a2.getD i false == b2.getD i false)) (fun _ => .inl (false, ())) (.inr (.inl (a0, a1, a2, a0, b1, b2, ()))) (by omega)
        (fun i hi => by
          rw [same12_s0]
          simp (disch := omega) only [dlen_l, ilt_nat, hi, decide_true, idx_l false, ieq_eq, wrap_add1]
          cases a2.getD i false == b2.getD i false <;> simp) (by rw [same12_s0]; simp only [dlen_l, ilt_nat, Nat.lt_irrefl, decide_false]) with ⟨k, hk, hP, _, e⟩ | ⟨hP, e⟩
      · have e' : iterL same12_s0 many (a0, a1, a2, a0, b1, b2, (0 : Int), ()) = _ := e
        simp only [e']
        rw [decide_eq_false fun e3 => ne_of_place (xs := a2) (ys := b2) false (j := k) (by simpa using hP) (by injection e3 with _ e3; injection e3 with _ e3; injection e3)]
      · have e' : iterL same12_s0 many (a0, a1, a2, a0, b1, b2, (0 : Int), ()) = _ := e
        have e2 := eq_of_places false hl fun j hj => by simpa using hP j (by omega)
        subst e2
        simp only [e', words07_val a1 b1 h1]
        congr 2
        by_cases e3 : a1 = b1 <;> simp [e3]
    · simp only [hl, decide_false, Bool.not_false]
      rw [decide_eq_false fun e => hl (by injection e with _ e; injection e with _ e; injection e with e _; rw [e])]
  · rw [show (a0 == b0) = false by simpa using e0]
    simp only [Bool.not_false]
    rw [decide_eq_false fun e => e0 (by injection e)]

theorem has11_val (xs : List Int) (x : Int) (hs : xs.length < 4294967296) : has11 (xs, x, ()) = some (decide (x ∈ xs), ()) := by
  rw [has11_eq, has11_d]
  rcases scanL (step := has11_s0) (fun i => (xs, x, (i : Int), ())) xs.length (fun i => xs.getD i 0 == x) (fun _ => .inl (true, ())) (.inr (.inl ())) hs
      (fun i hi => by
        rw [has11_s0]
        simp (disch := omega) only [dlen_l, ilt_nat, hi, decide_true, idx_l (0 : Int), ieq_eq, wrap_add1]
        cases xs.getD i 0 == x <;> simp) (by rw [has11_s0]; simp only [dlen_l, ilt_nat, Nat.lt_irrefl, decide_false]) with ⟨k, hk, hP, _, e⟩ | ⟨hP, e⟩
  · have e' : iterL has11_s0 many (xs, x, (0 : Int), ()) = _ := e
    simp only [e']
    rw [decide_eq_true (by rw [← eq_of_beq hP]; exact getD_mem hk)]
  · have e' : iterL has11_s0 many (xs, x, (0 : Int), ()) = _ := e
    simp only [e']
    rw [decide_eq_false fun hm => by
      obtain ⟨j, hj, e2⟩ := List.getElem_of_mem hm
      have := hP j hj
      simp [hj, e2] at this]

theorem containsW_val (xs : List Int) (x : Int) (hs : xs.length < 4294967296) : containsW (xs, x, ()) = some (decide (x ∈ xs), ()) := by
  rw [containsW_eq, containsW_d, indexW_eq, indexW_d]
  simp only [dlen_l]
  rcases scanL (step := indexW_s0) (fun i => (xs, x, (xs.length : Int), (i : Int), ())) xs.length (fun i => x == xs.getD i 0) (fun i => .inl ((i : Int), ())) (.inr (.inl ())) hs
      (fun i hi => by
        rw [indexW_s0]
        simp (disch := omega) only [ilt_nat, hi, decide_true, idx_l (0 : Int), ieq_eq, wrap_add1]
        cases x == xs.getD i 0 <;> simp) (by rw [indexW_s0]; simp only [ilt_nat, Nat.lt_irrefl, decide_false]) with ⟨k, hk, hP, _, e⟩ | ⟨hP, e⟩
  · have e' : iterL indexW_s0 many (xs, x, (xs.length : Int), (0 : Int), ()) = _ := e
    simp only [e', ile_eq]
    rw [decide_eq_true (by omega), decide_eq_true (by rw [eq_of_beq hP]; exact getD_mem hk)]
  · have e' : iterL indexW_s0 many (xs, x, (xs.length : Int), (0 : Int), ()) = _ := e
    simp only [e', ile_eq]
    rw [decide_eq_false (by omega), decide_eq_false fun hm => by
      obtain ⟨j, hj, e2⟩ := List.getElem_of_mem hm
      have := hP j hj
      simp [hj, e2] at this]

theorem foldl_range_filter (xs : List Int) (Q : Int → Bool) : ∀ N, N ≤ xs.length → (List.range N).foldl (fun a i => if Q (xs.getD i 0) then a ++ [xs.getD i 0] else a) [] = (xs.take N).filter Q := by
  intro N
  induction N with
  | zero => intro _; rfl
  | succ N ih =>
    intro h
    rw [List.range_succ, List.foldl_append, ih (by omega), take_succ_getD (by omega), List.filter_append]
    simp only [List.foldl_cons, List.foldl_nil]
    generalize xs.getD N 0 = v
    cases hq : Q v <;> simp [hq]

/-- the words that aren't dropped -/
def without (xs ys : List Int) : List Int := xs.filter fun x => !decide (x ∈ ys)

theorem without11_val (xs ys : List Int) (hs : xs.length < 4294967296) (hy : ys.length < 4294967296) : without11 (xs, ys, ()) = some (without xs ys, ()) := by
  rw [without11_eq, without11_d]
  obtain ⟨z, _, e, hz⟩ := foldL (step := without11_s0) (fun i a => (xs, ys, a, (i : Int), ())) xs.length (fun i a => if !decide (xs.getD i 0 ∈ ys) then a ++ [xs.getD i 0] else a) (fun a => .inl (a, ())) (fun i a => a.length ≤ i) hs
    (fun i a hi ha => by
      rw [without11_s0]
      simp (disch := omega) only [dlen_l, ilt_nat, hi, decide_true, idx_l (0 : Int), has11_val ys _ hy, wrap_add1, fits_l, List.length_cons, List.length_nil]
      cases decide (xs.getD i 0 ∈ ys)
      · simp [dapp]; omega
      · simp; omega) (fun a ha => by rw [without11_s0]; simp only [dlen_l, ilt_nat, Nat.lt_irrefl, decide_false]) [] (by simp)
  have e' : iterL without11_s0 many (xs, ys, [], (0 : Int), ()) = _ := e
  simp only [e']
  rw [hz, foldl_range_filter xs (fun x => !decide (x ∈ ys)) xs.length (Nat.le_refl _), List.take_length]
  rfl
end Go.Pev.Pl
end
section
namespace Go.Pev.Pl
/-- the words at full places -/
def kl (c : List Int) (f : List Bool) : List Int := (List.range f.length).foldl (fun a i => if f.getD i false && decide (i < c.length) then a ++ [c.getD i 0] else a) []

theorem kl_len (c : List Int) (f : List Bool) : (kl c f).length ≤ f.length := by
  suffices h : ∀ N, ((List.range N).foldl (fun a i => if f.getD i false && decide (i < c.length) then a ++ [c.getD i 0] else a) []).length ≤ N from h _
  intro N
  induction N with
  | zero => simp
  | succ N ih =>
    rw [List.range_succ, List.foldl_append, List.foldl_cons, List.foldl_nil]
    split
    · rw [List.length_append, List.length_singleton]; omega
    · omega

theorem mem_kl (c : List Int) (f : List Bool) (x : Int) : x ∈ kl c f ↔ ∃ i, i < f.length ∧ i < c.length ∧ f.getD i false = true ∧ x = c.getD i 0 := by
  suffices h : ∀ N, x ∈ (List.range N).foldl (fun a i => if f.getD i false && decide (i < c.length) then a ++ [c.getD i 0] else a) [] ↔ ∃ i, i < N ∧ i < c.length ∧ f.getD i false = true ∧ x = c.getD i 0 from h _
  intro N
  induction N with
  | zero => simp
  | succ N ih =>
    rw [List.range_succ, List.foldl_append, List.foldl_cons, List.foldl_nil]
    split
    · rename_i h
      rw [Bool.and_eq_true, decide_eq_true_eq] at h
      rw [List.mem_append, ih, List.mem_singleton]
      constructor
      · rintro (⟨i, h1, h2⟩ | h1)
        · exact ⟨i, by omega, h2⟩
        · exact ⟨N, by omega, h.2, h.1, h1⟩
      · rintro ⟨i, h1, h2, h3, h4⟩
        by_cases e : i = N
        · subst e; exact .inr h4
        · exact .inl ⟨i, by omega, h2, h3, h4⟩
    · rename_i h
      rw [ih]
      constructor
      · rintro ⟨i, h1, h2⟩
        exact ⟨i, by omega, h2⟩
      · rintro ⟨i, h1, h2, h3, h4⟩
        by_cases e : i = N
        · subst e; rw [Bool.and_eq_true, decide_eq_true_eq] at h; exact absurd ⟨h3, h2⟩ h
        · exact ⟨i, by omega, h2, h3, h4⟩

theorem keys_val (b : Int) (c : List Int) (f : List Bool) (hf : f.length < 2147483648) : keys ((b, (c, (f, ()))), ()) = some (ups (kl c f), ()) := by
  rw [keys_eq, keys_d]
  simp only [dlen_l]
  obtain ⟨z, _, e, hz⟩ := foldL (step := keys_s0) (fun i a => (b, c, f, a, f, (f.length : Int), (i : Int), ())) f.length (fun i a => if f.getD i false && decide (i < c.length) then a ++ [c.getD i 0] else a) (fun a => .inl (a, ())) (fun i a => a.length ≤ i) (by omega)
    (fun i a hi ha => by
      rw [keys_s0]
      simp (disch := omega) only [dlen_l, ilt_nat, hi, decide_true, idx_l false, wrap_add1]
      cases hfi : f.getD i false
      · simp; omega
      · by_cases hc : i < c.length
        · simp (disch := omega) only [hc, decide_true, idx_l (0 : Int), fits_l, List.length_cons, List.length_nil]
          simp [dapp]; omega
        · simp [hc]; omega) (fun a ha => by rw [keys_s0]; simp only [ilt_nat, Nat.lt_irrefl, decide_false]) [] (by simp)
  have e' : iterL keys_s0 many (b, c, f, [], f, (f.length : Int), (0 : Int), ()) = _ := e
  simp only [e']
  have hz' : z = kl c f := hz
  rw [hz', rising_val _ (by have := kl_len c f; omega)]

theorem kl_min (c : List Int) (f : List Bool) : kl c f = (List.range (min f.length c.length)).foldl (fun a i => if f.getD i false then a ++ [c.getD i 0] else a) [] := by
  have h1 : ∀ N, N ≤ c.length → (List.range N).foldl (fun a i => if f.getD i false && decide (i < c.length) then a ++ [c.getD i 0] else a) [] = (List.range N).foldl (fun a i => if f.getD i false then a ++ [c.getD i 0] else a) [] := by
    intro N
    induction N with
    | zero => intro _; rfl
    | succ N ih =>
      intro h
      rw [List.range_succ, List.foldl_append, List.foldl_append, ih (by omega)]
      simp only [List.foldl_cons, List.foldl_nil, decide_eq_true (show N < c.length by omega), Bool.and_true]
  have h2 : ∀ M, (List.range (c.length + M)).foldl (fun a i => if f.getD i false && decide (i < c.length) then a ++ [c.getD i 0] else a) [] = (List.range c.length).foldl (fun a i => if f.getD i false && decide (i < c.length) then a ++ [c.getD i 0] else a) [] := by
    intro M
    induction M with
    | zero => rfl
    | succ M ih =>
      rw [← Nat.add_assoc, List.range_succ, List.foldl_append, ih]
      simp only [List.foldl_cons, List.foldl_nil, decide_eq_false (show ¬ c.length + M < c.length by omega), Bool.and_false, Bool.false_eq_true, if_false]
  rw [kl]
  by_cases h : f.length ≤ c.length
  · rw [Nat.min_eq_left h, h1 _ h]
  · rw [Nat.min_eq_right (by omega), ← h1 _ (Nat.le_refl _), ← h2 (f.length - c.length), Nat.add_sub_cancel' (by omega)]

theorem keys12_val (b : Int) (c : List Int) (f : List Bool) (hf : f.length < 2147483648) : keys12 ((b, (c, (f, ()))), ()) = some (ups (kl c f), ()) := by
  rw [keys12_eq, keys12_d]
  obtain ⟨z, _, e, hz⟩ := foldL (step := keys12_s0) (fun i a => (b, c, f, a, (i : Int), ())) (min f.length c.length) (fun i a => if f.getD i false then a ++ [c.getD i 0] else a) (fun a => .inl (a, ())) (fun i a => a.length ≤ i) (by omega)
    (fun i a hi ha => by
      have i1 : i < f.length := by omega
      have i2 : i < c.length := by omega
      rw [keys12_s0]
      simp (disch := omega) only [dlen_l, ilt_nat, i1, i2, decide_true, idx_l false, wrap_add1]
      cases hfi : f.getD i false
      · simp; omega
      · simp (disch := omega) only [idx_l (0 : Int), fits_l, List.length_cons, List.length_nil]
        simp [dapp]; omega) (fun a ha => by
      rw [keys12_s0]
      simp only [dlen_l, ilt_nat]
      by_cases h : min f.length c.length < f.length
      · rw [decide_eq_true h, decide_eq_false (by omega)]
      · rw [decide_eq_false h]) [] (by simp)
  have e' : iterL keys12_s0 many (b, c, f, [], (0 : Int), ()) = _ := e
  simp only [e']
  have hz' : z = kl c f := by rw [hz, kl_min]
  rw [hz', rising12_val _ (by have := kl_len c f; omega)]

theorem growW_val (n : Nat) (hn : n < 4294967296) : growW ((n : Int), ()) = some ([], ()) := by
  have e0 : IntKind.wrap .i64 ((n : Int) - IntKind.wrap .i64 ((0 : Int) - 0)) = (n : Int) := by rw [wrap_in (n := (0 : Int) - 0) (by omega), wrap_in (by omega)]; omega
  rw [growW_eq, growW_d]
  simp only [e0, ilt_eq]
  rw [decide_eq_false (by omega)]
  simp only []
  by_cases h : 0 < n
  · rw [decide_eq_true (by omega)]
    have s1 : subl ([] : List Unit) (0 : Int) (0 : Int) = some [] := by rw [subl_eq]; rfl
    have s2 : subl (drep (dnat (n : Int)) (0 : Int)) (0 : Int) (0 : Int) = some [] := by
      rw [subl_eq, sublR, if_pos (by omega)]
      simp
    simp only [s1, s2, fitsI_l (show 0 ≤ (n : Int) ∧ (n : Int) ≤ 4294967296 by omega)]
    rfl
  · rw [decide_eq_false (by omega)]

theorem concatW_val (xs ys : List Int) (h : xs.length + ys.length < 4294967296) : concatW ([xs, ys], ()) = some (xs ++ ys, ()) := by
  obtain ⟨m, hm⟩ : ∃ m, many = m + 3 := ⟨many - 3, by simp only [many]⟩
  rw [concatW_eq, concatW_d]
  have i0 : idx [xs, ys] (0 : Int) = some xs := by rw [idx_eq]; rfl
  have i1 : idx [xs, ys] (1 : Int) = some ys := by rw [idx_eq]; rfl
  have l2 : dlen [xs, ys] = (2 : Int) := rfl
  have w1 : IntKind.wrap .i64 ((0 : Int) + 1) = 1 := by rw [wrap_in (by omega)]; rfl
  have w2 : IntKind.wrap .i64 ((1 : Int) + 1) = 2 := by rw [wrap_in (by omega)]; rfl
  have v1 : IntKind.wrap .i64 ((0 : Int) + (xs.length : Int)) = (xs.length : Int) := by rw [wrap_in (by omega)]; omega
  have v2 : IntKind.wrap .i64 ((xs.length : Int) + (ys.length : Int)) = ((xs.length + ys.length : Nat) : Int) := wrap_add (by omega)
  have c0 : ilt (0 : Int) 2 = true := by rw [ilt_eq]; rfl
  have c1 : ilt (1 : Int) 2 = true := by rw [ilt_eq]; rfl
  have c2 : ilt (2 : Int) 2 = false := by rw [ilt_eq]; rfl
  have z1 : ilt (xs.length : Int) 0 = false := by rw [ilt_eq, decide_eq_false (by omega)]
  have z2 : ilt ((xs.length + ys.length : Nat) : Int) 0 = false := by rw [ilt_eq, decide_eq_false (by omega)]
  have e0 : iterL concatW_s0 many ([xs, ys], (0 : Int), [xs, ys], (2 : Int), (0 : Int), ()) = some (.inl ([xs, ys], ((xs.length + ys.length : Nat) : Int), ())) := by
    rw [iterL_eq, hm]
    simp only [iterO, concatW_s0, c0, c1, c2, i0, i1, dlen_l, v1, v2, z1, z2, w1, w2]
  have e1 : iterL concatW_s1 many ([], [xs, ys], (2 : Int), (0 : Int), ()) = some (.inl (xs ++ ys, ())) := by
    rw [iterL_eq, hm]
    have f1 : fits (dlen ([] : List Int) + dlen xs) = true := fits_l (by rw [dlen_l, dlen_l]; simp; omega)
    have f2 : fits (dlen (dapp [] xs) + dlen ys) = true := fits_l (by rw [dlen_l, dlen_l]; simp [dapp]; omega)
    simp only [iterO, concatW_s1, c0, c1, c2, i0, i1, f1, f2, w1, w2]
    rfl
  simp only [l2, e0, growW_val _ h, e1]

theorem put1_val (xs ys : List Int) (h : xs.length + ys.length < 4294967296) : put1 (xs, ys, ()) = some (ys, xs ++ ys, ()) := by
  rw [put1_eq, put1_d]
  simp only [concatW_val xs ys h]

theorem delW_loop (o ys : List Int) (hs : o.length < 4294967296) (hy : ys.length < 4294967296) : ∀ (k j w : Nat) (a : List Int) (n : Nat), j + k = o.length → a.length = o.length → w = (without (o.take j) ys).length → a.take w = without (o.take j) ys → w < j → a.drop j = o.drop j → k < n →
    ∃ a' : List Int, iterO delFuncW_drop_s0 n (a, ys, (w : Int), (j : Int), ()) = some (.inl (a', ys, (((without o ys).length : Nat) : Int), ())) ∧ a'.length = o.length ∧ a'.take (without o ys).length = without o ys := by
  intro k
  induction k with
  | zero =>
    intro j w a n hk hl hw hq hwj hd hn
    obtain ⟨n, rfl⟩ : ∃ k, n = k + 1 := ⟨n - 1, by omega⟩
    have e : j = o.length := by omega
    subst e
    rw [List.take_length] at hw hq
    rw [iterO, delFuncW_drop_s0, dlen_l, ilt_nat, decide_eq_false (by omega)]
    exact ⟨a, by rw [hw], hl, by rw [← hw]; exact hq⟩
  | succ k ih =>
    intro j w a n hk hl hw hq hwj hd hn
    obtain ⟨n, rfl⟩ : ∃ k, n = k + 1 := ⟨n - 1, by omega⟩
    have g1 : a.getD j 0 = o.getD j 0 := getD_drop_eq hd (Nat.le_refl _)
    have hdd : a.drop (j + 1) = o.drop (j + 1) := by
      have := congrArg (List.drop 1) hd
      simpa only [List.drop_drop] using this
    have hst : without (o.take (j + 1)) ys = without (o.take j) ys ++ if o.getD j 0 ∈ ys then [] else [o.getD j 0] := by
      rw [take_succ_getD (by omega), without, List.filter_append]
      generalize o.getD j 0 = v
      by_cases h : v ∈ ys <;> simp [without, h]
    rw [iterO, delFuncW_drop_s0, dlen_l, ilt_nat, decide_eq_true (by omega)]
    simp (disch := omega) only [idx_l (0 : Int), dget_l, dset_l, g1, containsW_val ys _ hy, wrap_add1]
    by_cases h : o.getD j 0 ∈ ys
    · rw [decide_eq_true h]
      rw [if_pos h, List.append_nil] at hst
      exact ih (j + 1) w a n (by omega) hl (by rw [hst]; exact hw) (by rw [hst]; exact hq) (by omega) hdd (by omega)
    · rw [decide_eq_false h]
      rw [if_neg h] at hst
      refine ih (j + 1) (w + 1) (a.set w (o.getD j 0)) n (by omega) (by simp [hl]) (by rw [hst]; simp [hw]) ?_ (by omega) ?_ (by omega)
      · rw [hst, ← hq, List.take_succ_eq_append_getElem (by simp; omega)]
        simp [List.take_set_of_le]
      · rw [List.drop_set_of_lt (by omega)]
        exact hdd

theorem without_none {o ys : List Int} (h : ∀ j, j < o.length → decide (o.getD j 0 ∈ ys) = false) : without o ys = o := by
  rw [without, List.filter_eq_self]
  intro x hx
  obtain ⟨j, hj, e⟩ := List.getElem_of_mem hx
  have := h j hj
  simp only [List.getD_eq_getElem?_getD, List.getElem?_eq_getElem hj, Option.getD_some, e] at this
  simp only [this, Bool.not_false]

theorem delW_val (o ys : List Int) (hs : o.length < 4294967296) (hy : ys.length < 4294967296) :
    ∃ a : List Int, delFuncW_drop (o, ys, ()) = some (a, ys, (((without o ys).length : Nat) : Int), ()) ∧ a.take (without o ys).length = without o ys := by
  have hm : 4294967296 < many := by simp only [many]; omega
  rw [delFuncW_drop_eq, delFuncW_drop_d, idxFuncW_drop_eq, idxFuncW_drop_d]
  simp only [dlen_l]
  rcases scanL (step := idxFuncW_drop_s0) (fun i => (o, ys, (o.length : Int), (i : Int), ())) o.length (fun i => decide (o.getD i 0 ∈ ys)) (fun i => .inl (o, ys, (i : Int), ())) (.inr (.inl (o, ys, ()))) hs
      (fun i hi => by
        rw [idxFuncW_drop_s0]
        simp (disch := omega) only [ilt_nat, hi, decide_true, idx_l (0 : Int), dget_l, containsW_val ys _ hy, wrap_add1]
        cases decide (o.getD i 0 ∈ ys) <;> rfl) (by rw [idxFuncW_drop_s0]; simp only [ilt_nat, Nat.lt_irrefl, decide_false]) with ⟨k, hk, hP, hF, e⟩ | ⟨hP, e⟩
  · have e' : iterL idxFuncW_drop_s0 many (o, ys, (o.length : Int), (0 : Int), ()) = _ := e
    have h0 : without (o.take k) ys = o.take k := without_none fun j hj => by
      rw [List.length_take] at hj
      have := hF j (by omega)
      rw [show (o.take k).getD j 0 = o.getD j 0 by simp [List.getD_eq_getElem?_getD, List.getElem?_take_of_lt (show j < k by omega)]]
      exact this
    have h1 : without (o.take (k + 1)) ys = o.take k := by
      rw [take_succ_getD hk, without, List.filter_append]
      have : (List.filter (fun x => !decide (x ∈ ys)) [o.getD k 0]) = [] := by
        generalize o.getD k 0 = v at *
        simp [hP]
      rw [this, List.append_nil]
      exact h0
    obtain ⟨a', e2, e3, e4⟩ := delW_loop o ys hs hy (o.length - (k + 1)) (k + 1) k o many (by omega) rfl (by rw [h1, List.length_take]; omega) (by rw [h1]) (by omega) rfl (by omega)
    have hle : (without o ys).length ≤ o.length := List.length_filter_le _ _
    have hcl : (dclear (without o ys).length (a'.length - (without o ys).length) 0 a').length = a'.length := by
      simp [dclear]; omega
    have s0 : subl (dclear (without o ys).length (a'.length - (without o ys).length) 0 a') (0 : Int) (((without o ys).length : Nat) : Int) = some _ := subl_l (l := 0) (by omega) (by omega)
    simp only [e', ieq_eq]
    rw [show ((k : Int) == -1) = false from beq_false_of_ne (by omega), wrap_add1 (by omega)]
    simp only [iterL_eq, e2]
    rw [subl_l (by omega) (by omega)]
    simp only [List.take_length, List.length_drop, dnat_l, s0]
    refine ⟨dclear (without o ys).length (a'.length - (without o ys).length) 0 a', ?_, ?_⟩
    · simp only [List.length_take, Nat.sub_zero]
      rw [Nat.min_eq_left (by omega)]
    · rw [dclear, List.take_append_of_le_length (by simp; omega), List.take_take, Nat.min_self]
      exact e4
  · have e' : iterL idxFuncW_drop_s0 many (o, ys, (o.length : Int), (0 : Int), ()) = _ := e
    have h0 := without_none hP
    simp only [e', ieq_eq]
    exact ⟨o, by rw [h0]; rfl, by rw [h0, List.take_length]⟩

theorem drop1_val (o ys : List Int) (hs : o.length < 4294967296) (hy : ys.length < 4294967296) :
    ∃ a : List Int, drop1 (o, ys, ()) = some (a, ys, (((without o ys).length : Nat) : Int), ()) ∧ a.take (without o ys).length = without o ys := by
  obtain ⟨a, e, e2⟩ := delW_val o ys hs hy
  rw [drop1_eq, drop1_d]
  simp only [e, dnat_l]
  exact ⟨a, rfl, e2⟩
end Go.Pev.Pl
end
section
namespace Go.Pev.Pl
theorem ups_ups (xs : List Int) : ups (ups xs) = ups xs := up_unique (up_ups _) (up_ups _) fun z => by rw [mem_ups]
theorem mkOut_ups (b : Int) (xs : List Int) : mkOut b (ups xs) = mkOut b xs := by rw [mkOut, mkOut, ups_ups]
theorem mkOut_ok {b : Nat} {xs : List Int} (h1 : 1 ≤ b) (h2 : b ≤ 10) (h3 : (ups xs).length ≤ 2 ^ b * 3 / 4) : mkOut (b : Int) xs = ((b : Int), (tab b (ups xs)).1, (tab b (ups xs)).2, 0, ()) := by
  rw [mkOut, if_pos (by omega), Int.toNat_natCast, if_neg (by omega)]
theorem mkOut_cases (b : Int) (xs : List Int) : (∃ e, e ≠ 0 ∧ mkOut b xs = (0, [], [], e, ())) ∨
    ∃ n : Nat, b = (n : Int) ∧ 1 ≤ n ∧ n ≤ 10 ∧ (ups xs).length ≤ 2 ^ n * 3 / 4 ∧ mkOut b xs = (b, (tab n (ups xs)).1, (tab n (ups xs)).2, 0, ()) ∧ Holds12 n (tab n (ups xs)) (ups xs) := by
  by_cases h : 1 ≤ b ∧ b ≤ 10
  · obtain ⟨n, rfl⟩ : ∃ n : Nat, b = (n : Int) := ⟨b.toNat, by omega⟩
    obtain ⟨_, _, f3⟩ := pow_fact (b := n) (by omega) (by omega)
    by_cases h2 : 2 ^ n * 3 / 4 < (ups xs).length
    · exact .inl ⟨2, by decide, by rw [mkOut, if_pos h, Int.toNat_natCast, if_pos h2]⟩
    · exact .inr ⟨n, rfl, by omega, by omega, by omega, mkOut_ok (by omega) (by omega) (by omega), tab_holds (by omega) (up_ups xs) (by omega)⟩
  · exact .inl ⟨1, by decide, by rw [mkOut, if_neg h]⟩

/-- is it the table of its keys? -/
def rightB (b : Int) (c : List Int) (f : List Bool) : Bool := decide (mkOut b (kl c f) = (b, c, f, 0, ()))

theorem right_facts {b : Int} {c : List Int} {f : List Bool} (h : rightB b c f = true) : ∃ n : Nat, b = (n : Int) ∧ 1 ≤ n ∧ n ≤ 10 ∧ (ups (kl c f)).length ≤ 2 ^ n * 3 / 4 ∧ tab n (ups (kl c f)) = (c, f) ∧ Holds12 n (c, f) (ups (kl c f)) := by
  rw [rightB, decide_eq_true_eq] at h
  rcases mkOut_cases b (kl c f) with ⟨e, h0, h1⟩ | ⟨n, rfl, h1, h2, h3, h4, h5⟩
  · rw [h1] at h
    exact absurd (by injection h with _ h; injection h with _ h; injection h with _ h; injection h) h0
  · rw [h4] at h
    have e : tab n (ups (kl c f)) = (c, f) := by
      injection h with _ h; injection h with a1 h; injection h with a2 h
      exact Prod.ext a1 a2
    exact ⟨n, rfl, h1, h2, h3, e, e ▸ h5⟩

theorem tab_len {n : Nat} {t : CF} {ks : List Int} (h : Holds12 n t ks) (hn : n ≤ 10) : t.1.length ≤ 1024 ∧ t.2.length ≤ 1024 := by
  have h10 : 2 ^ n ≤ 2 ^ 10 := Nat.pow_le_pow_right (by omega) hn
  rw [h.lc, h.lf]
  omega

theorem right_val (b : Int) (c : List Int) (f : List Bool) (hf : f.length < 2147483648) : right ((b, (c, (f, ()))), ()) = some (rightB b c f, ()) := by
  have hl := ups_len (kl c f)
  have hl2 := kl_len c f
  rw [right_eq, right_d]
  simp only [keys_val b c f hf]
  rw [make_val b _ (by omega), mkOut_ups, rightB]
  rcases mkOut_cases b (kl c f) with ⟨e, h0, h1⟩ | ⟨n, rfl, h1, h2, h3, h4, h5⟩
  · rw [h1]
    simp only [ieq_eq]
    rw [show (e == 0) = false by simpa using h0, decide_eq_false fun h => h0 (by injection h with _ h; injection h with _ h; injection h with _ h; injection h)]
  · obtain ⟨a1, a2⟩ := tab_len h5 h2
    rw [h4]
    simp only [ieq_eq, BEq.rfl]
    rw [equalW_val _ _ (by omega)]
    by_cases e1 : (tab n (ups (kl c f))).1 = c
    · rw [decide_eq_true e1]
      simp only []
      rw [equalB_val _ _ (by omega)]
      simp only []
      congr 2
      by_cases e2 : (tab n (ups (kl c f))).2 = f
      · rw [decide_eq_true e2, decide_eq_true (by rw [e1, e2])]
      · rw [decide_eq_false e2, decide_eq_false fun h => e2 (by injection h with _ h; injection h with _ h; injection h)]
    · rw [decide_eq_false e1, decide_eq_false fun h => e1 (by injection h with _ h; injection h)]

theorem kl_u32 {c : List Int} (f : List Bool) (hc : U32s c) : U32s (kl c f) := fun x hx => by
  obtain ⟨i, _, h2, _, e⟩ := (mem_kl c f x).1 hx
  rw [e]
  exact hc _ (getD_mem h2)

theorem right12_val (b : Int) (c : List Int) (f : List Bool) (hf : f.length < 2147483648) (hu : U32s c) : right12 ((b, (c, (f, ()))), ()) = some (rightB b c f, ()) := by
  have hl := ups_len (kl c f)
  have hl2 := kl_len c f
  rw [right12_eq, right12_d]
  simp only [keys12_val b c f hf]
  rw [make12_val b _ (by omega) (kl_u32 f hu).ups, mkOut_ups, rightB]
  rcases mkOut_cases b (kl c f) with ⟨e, h0, h1⟩ | ⟨n, rfl, h1, h2, h3, h4, h5⟩
  · rw [h1]
    simp only [ieq_eq]
    rw [show (e == 0) = false by simpa using h0, decide_eq_false fun h => h0 (by injection h with _ h; injection h with _ h; injection h with _ h; injection h)]
  · obtain ⟨a1, a2⟩ := tab_len h5 h2
    rw [h4]
    simp only [ieq_eq, BEq.rfl]
    rw [same12_val _ _ (by simp; omega) (by simp; omega)]
    simp only []
    congr 2
    by_cases e : (tab n (ups (kl c f))).1 = c ∧ (tab n (ups (kl c f))).2 = f
    · rw [decide_eq_true (by rw [e.1, e.2]), decide_eq_true (by rw [e.1, e.2])]
    · rw [decide_eq_false fun h => e ⟨by injection h with _ h; injection h, by injection h with _ h; injection h with _ h; injection h⟩, decide_eq_false fun h => e ⟨by injection h with _ h; injection h, by injection h with _ h; injection h with _ h; injection h⟩]

/-- what Find answers -/
def findOut (b : Int) (c : List Int) (f : List Bool) (k : Int) : Int × Int × Bool × Unit :=
  if rightB b c f then
    if f.getD (spot b.toNat c f k) false then (((spot b.toNat c f k : Nat) : Int), ((1 + far b.toNat c f k : Nat) : Int), true, ()) else (0, ((1 + far b.toNat c f k : Nat) : Int), false, ())
  else (0, 0, false, ())

theorem right_stops {n : Nat} {c : List Int} {f : List Bool} {ks : List Int} (h1 : 1 ≤ n) (h2 : n ≤ 10) (h : Holds12 n (c, f) ks) (hl : ks.length ≤ 2 ^ n * 3 / 4) (k : Int) : ∃ j, j < 2 ^ n ∧ stopP c f k ((H n k + j) % 2 ^ n) = true := by
  obtain ⟨_, _, f3⟩ := pow_fact h1 h2
  have hc : f.count true = ks.length := h.cnt
  exact stops12 (c := c) (f := f) h2 h.lf (by omega) k

theorem find_val (b : Int) (c : List Int) (f : List Bool) (k : Int) (hf : f.length < 2147483648) : find ((b, (c, (f, ()))), k, ()) = some (findOut b c f k) := by
  rw [find_eq, find_d]
  simp only [right_val b c f hf]
  rw [findOut]
  by_cases h : rightB b c f = true
  · obtain ⟨n, rfl, h1, h2, h3, h4, h5⟩ := right_facts h
    have hlt := spot_lt n c f k
    rw [h]
    simp only [Bool.not_true, probe_val k c f n h1 h2 h5.lc h5.lf (right_stops h1 h2 h5 h3 k), if_true, Int.toNat_natCast]
    rw [idx_l false (by have := h5.lf; simp only at this; omega)]
    cases f.getD (spot n c f k) false <;> rfl
  · rw [Bool.not_eq_true] at h
    rw [h]
    rfl

theorem find12_loop (k bb : Int) (c : List Int) (f : List Bool) (b : Nat) (hb : b ≤ 10) (hc : c.length = 2 ^ b) (hf : f.length = 2 ^ b) : ∀ (m p l n : Nat), p < 2 ^ b → l + m < 4294967296 → (∃ j, j < m ∧ stopP c f k ((p + j) % 2 ^ b) = true) → m < n →
    iterO find12_s0 n (k, bb, c, f, ((2 ^ b : Nat) : Int), (p : Int), (l : Int), ()) = some (.inl (bb, c, f, (((p + way (stopP c f k) (2 ^ b) p m) % 2 ^ b : Nat) : Int), ((l + way (stopP c f k) (2 ^ b) p m : Nat) : Int), ())) := by
  have h10 : 2 ^ b ≤ 2 ^ 10 := Nat.pow_le_pow_right (by omega) hb
  have h1 : 0 < 2 ^ b := Nat.two_pow_pos b
  intro m
  induction m with
  | zero => rintro p l n _ _ ⟨j, h, _⟩; omega
  | succ m ih =>
    rintro p l n hp hl hex hn
    obtain ⟨n, rfl⟩ : ∃ k, n = k + 1 := ⟨n - 1, by omega⟩
    rw [iterO, find12_s0, way]
    rw [idx_l false (by omega)]
    simp only []
    by_cases hs : stopP c f k p = true
    · rw [if_pos hs]
      simp only [Nat.add_zero, Nat.mod_eq_of_lt hp]
      rw [stopP] at hs
      cases hfp : f.getD p false
      · rfl
      · rw [hfp] at hs
        simp only [Bool.true_and, Bool.not_not] at hs
        simp (disch := omega) only [idx_l (0 : Int), ieq_eq, hs, Bool.not_true]
    · rw [if_neg hs]
      rw [stopP] at hs
      cases hfp : f.getD p false
      · rw [hfp] at hs; simp at hs
      · rw [hfp] at hs
        simp only [Bool.true_and, Bool.not_not, Bool.not_eq_true] at hs
        have hr : rem? (((p + 1 : Nat)) : Int) ((2 ^ b : Nat) : Int) = some (((p + 1) % 2 ^ b : Nat) : Int) := by
          rw [rem_eq, remR, if_neg (by omega), Int.tmod_eq_emod_of_nonneg (by omega)]
          rfl
        simp (disch := omega) only [idx_l (0 : Int), ieq_eq, hs, Bool.not_false, wrap_add1, hr]
        obtain ⟨j, hj, hsj⟩ := hex
        have hj0 : j ≠ 0 := fun e => by
          subst e
          rw [Nat.add_zero, Nat.mod_eq_of_lt hp, stopP, hfp, hs] at hsj
          cases hsj
        have sh : ∀ i, ((p + 1) % 2 ^ b + i) % 2 ^ b = (p + (1 + i)) % 2 ^ b := fun i => by rw [Nat.mod_add_mod, Nat.add_assoc]
        rw [ih ((p + 1) % 2 ^ b) (l + 1) n (Nat.mod_lt _ h1) (by omega) ⟨j - 1, by omega, by rw [sh, show 1 + (j - 1) = j by omega]; exact hsj⟩ (by omega), sh, Nat.add_assoc l]

theorem find12_val (b : Int) (c : List Int) (f : List Bool) (k : Int) (hf : f.length < 2147483648) (hu : U32s c) (hk : 0 ≤ k ∧ k ≤ 4294967295) : find12 ((b, (c, (f, ()))), k, ()) = some (findOut b c f k) := by
  have hm : 4294967296 < many := by simp only [many]; omega
  rw [find12_eq, find12_d]
  simp only [right12_val b c f hf hu]
  rw [findOut]
  by_cases h : rightB b c f = true
  · obtain ⟨n, rfl, h1, h2, h3, h4, h5⟩ := right_facts h
    have hlt := spot_lt n c f k
    have hlc : c.length = 2 ^ n := h5.lc
    have hlf : f.length = 2 ^ n := h5.lf
    obtain ⟨_, f2, _⟩ := pow_fact h1 h2
    rw [h]
    simp only [Bool.not_true, if_true, Int.toNat_natCast, home12_val n k h1 h2 hk, dlen_l, hlc, iterL_eq]
    have e := find12_loop k (n : Int) c f n h2 hlc hlf (2 ^ n) (H n k) 1 many (H_lt n k h2) (by omega) (right_stops h1 h2 h5 h3 k) (by omega)
    have e' : iterO find12_s0 many (k, (n : Int), c, f, ((2 ^ n : Nat) : Int), ((H n k : Nat) : Int), (1 : Int), ()) = some (.inl ((n : Int), c, f, ((spot n c f k : Nat) : Int), ((1 + far n c f k : Nat) : Int), ())) := e
    simp only [e']
    rw [idx_l false (by omega)]
    cases f.getD (spot n c f k) false <;> rfl
  · rw [Bool.not_eq_true] at h
    rw [h]
    rfl

/-- what Put answers -/
def putOut (b : Int) (c : List Int) (f : List Bool) (xs : List Int) : Int × List Int × List Bool × Int × Unit :=
  if rightB b c f then
    if (mkOut b (ups (kl c f) ++ xs)).2.2.2.1 = 0 then mkOut b (ups (kl c f) ++ xs) else (b, c, f, (mkOut b (ups (kl c f) ++ xs)).2.2.2.1, ())
  else (b, c, f, 1, ())
def dropOut (b : Int) (c : List Int) (f : List Bool) (xs : List Int) : Int × List Int × List Bool × Int × Unit :=
  if rightB b c f then mkOut b (without (ups (kl c f)) xs) else (b, c, f, 1, ())

section
set_option linter.unusedSectionVars false
variable (b : Int) (c : List Int) (f : List Bool) (xs : List Int) (hf : f.length < 1073741824) (hx : xs.length < 1073741824)
include hf hx
theorem put_val : put ((b, (c, (f, ()))), xs, ()) = some (putOut b c f xs) := by
  have hl := ups_len (kl c f)
  have hl2 := kl_len c f
  rw [put_eq, put_d]
  simp only [right_val b c f (by omega)]
  rw [putOut]
  by_cases h : rightB b c f = true
  · rw [h]
    simp only [Bool.not_true, keys_val b c f (by omega), if_true]
    rw [put1_val _ _ (by omega)]
    simp only []
    rw [make_val b _ (by rw [List.length_append]; omega)]
    rcases mkOut_cases b (ups (kl c f) ++ xs) with ⟨e, h0, h1⟩ | ⟨n, _, _, _, _, h4, _⟩
    · rw [h1]
      simp only [ieq_eq, if_neg h0]
      rw [show (e == 0) = false by simpa using h0]
      rfl
    · rw [h4]
      simp only [ieq_eq, if_true, BEq.rfl, Bool.not_true]
  · rw [Bool.not_eq_true] at h
    rw [h]
    rfl
theorem put12_val (hu : U32s c) (hxu : U32s xs) : put12 ((b, (c, (f, ()))), xs, ()) = some (putOut b c f xs) := by
  have hl := ups_len (kl c f)
  have hl2 := kl_len c f
  rw [put12_eq, put12_d]
  simp only [right12_val b c f (by omega) hu]
  rw [putOut]
  by_cases h : rightB b c f = true
  · rw [h]
    simp only [Bool.not_true, keys12_val b c f (by omega), if_true, dlen_l]
    rw [fits_l (by omega)]
    simp only [dapp]
    rw [make12_val b _ (by rw [List.length_append]; omega) (fun x hx => by
      rcases List.mem_append.1 hx with hx | hx
      · exact (kl_u32 f hu).ups x hx
      · exact hxu x hx)]
    rcases mkOut_cases b (ups (kl c f) ++ xs) with ⟨e, h0, h1⟩ | ⟨n, _, _, _, _, h4, _⟩
    · rw [h1]
      simp only [ieq_eq, if_neg h0]
      rw [show (e == 0) = false by simpa using h0]
      rfl
    · rw [h4]
      simp only [ieq_eq, if_true, BEq.rfl, Bool.not_true]
  · rw [Bool.not_eq_true] at h
    rw [h]
    rfl
theorem without_len (ks ys : List Int) : (without ks ys).length ≤ ks.length := List.length_filter_le _ _
theorem drop_ok (h : rightB b c f = true) : ∃ n : Nat, b = (n : Int) ∧ 1 ≤ n ∧ n ≤ 10 ∧ mkOut b (without (ups (kl c f)) xs) = (b, (tab n (ups (without (ups (kl c f)) xs))).1, (tab n (ups (without (ups (kl c f)) xs))).2, 0, ()) ∧ (ups (without (ups (kl c f)) xs)).length ≤ 2 ^ n * 3 / 4 := by
  obtain ⟨n, rfl, h1, h2, h3, h4, h5⟩ := right_facts h
  have a1 := ups_len (without (ups (kl c f)) xs)
  have a2 : (without (ups (kl c f)) xs).length ≤ (ups (kl c f)).length := List.length_filter_le _ _
  exact ⟨n, rfl, h1, h2, mkOut_ok h1 h2 (by omega), by omega⟩
theorem drop_val : drop ((b, (c, (f, ()))), xs, ()) = some (dropOut b c f xs) := by
  have hl := ups_len (kl c f)
  have hl2 := kl_len c f
  rw [drop_eq, drop_d]
  simp only [right_val b c f (by omega)]
  rw [dropOut]
  by_cases h : rightB b c f = true
  · rw [h]
    simp only [Bool.not_true, keys_val b c f (by omega), if_true]
    obtain ⟨a, e, e2⟩ := drop1_val (ups (kl c f)) xs (by omega) (by omega)
    simp only [e, dnat_l, dtake, e2]
    rw [make_val b _ (by have : (without (ups (kl c f)) xs).length ≤ (ups (kl c f)).length := List.length_filter_le _ _; omega)]
    obtain ⟨n, _, _, _, h4, _⟩ := drop_ok b c f xs hf hx h
    rw [h4]
    simp only [ieq_eq, BEq.rfl, Bool.not_true]
  · rw [Bool.not_eq_true] at h
    rw [h]
    rfl
theorem drop12_val (hu : U32s c) : drop12 ((b, (c, (f, ()))), xs, ()) = some (dropOut b c f xs) := by
  have hl := ups_len (kl c f)
  have hl2 := kl_len c f
  rw [drop12_eq, drop12_d]
  simp only [right12_val b c f (by omega) hu]
  rw [dropOut]
  by_cases h : rightB b c f = true
  · rw [h]
    simp only [Bool.not_true, keys12_val b c f (by omega), if_true]
    rw [without11_val _ _ (by omega) (by omega)]
    simp only []
    rw [make12_val b (without (ups (kl c f)) xs) (by have : (without (ups (kl c f)) xs).length ≤ (ups (kl c f)).length := List.length_filter_le _ _; omega) (fun x hx => (kl_u32 f hu).ups x (List.mem_filter.1 hx).1)]
  · rw [Bool.not_eq_true] at h
    rw [h]
    rfl
end
end Go.Pev.Pl
end
section
/- A call whose result is the front of a slice that was handed in: it is the caller's own, from now on. Closures' own specs. Recursion. -/
namespace Go.Pev
open Go.RowKit

def takeK {R : Type} (slot : Nat) (H : List Ob) (fz : List Bool) (k : AV → Eff → Option R) (v : AV) (e : Eff) : Option R :=
  match e.heap with
  | none => match v with
    | .win id 0 n => match (appH e H)[id]? with
      | some (.arr T t xs) => match unfrozen (appF e fz) id && isFree (appH e H) (appF e fz) (slot + 3) && (e.objs.any fun p => Nat.beq p.1 id) with
        | true => k (.own (slot + 3)) { objs := e.objs ++ [(id, .dead), (slot + 3, .arr T t (dtake n xs))], frz := e.frz }
        | false => none
      | _ => none
    | _ => none
  | some _ => none

def takeBack (s : Spec) : Spec := fun R args H fz slot k => s R args H fz slot (takeK slot H fz k)

section
variable {P : Program} {g : FuncId}

theorem setObjs_app (a b : List (Nat × Ob)) : ∀ H, setObjs (a ++ b) H = setObjs b (setObjs a H) := by
  induction a with
  | nil => intro H; rfl
  | cons p a ih => intro H; obtain ⟨i, o⟩ := p; simp only [List.cons_append, setObjs]; exact ih _

/-- the front of an object, for the object -/
theorem goes_take {w : World} {F : Nat → Prop} {m : Mp} {H : List Ob} {fz : List Bool} (hi : HI w F m H fz) {id n slot : Nat} {T : TypeId} {t : Ty} {xs : List t.den} (ho : H[id]? = some (.arr T t xs)) (hf : unfrozen fz id = true)
    (hs : isFree H fz slot = true) {u : Value} (hr : Rep w F m H (.win id 0 n) u) :
    ∃ m', Goes w F m H fz w F m' ((H.set id .dead).set slot (.arr T t (dtake n xs))) fz ∧ Rep w F m' ((H.set id .dead).set slot (.arr T t (dtake n xs))) (.own slot) u := by
  have hob := hi.obj id _ ho
  obtain ⟨h0, hob⟩ := hob
  unfold Rep at hr
  rw [ho] at hr
  obtain ⟨hle, hr⟩ := hr
  rw [Nat.zero_add] at hle
  have hsn : slot ≠ id := free_ne hs ho
  have hkill := Goes.kill hi (owned_arr ho hf)
  have zero : ∀ a, n = 0 → u = .slice a 0 0 → ∃ m', Goes w F m H fz w F m' ((H.set id .dead).set slot (.arr T t (dtake n xs))) fz ∧ Rep w F m' ((H.set id .dead).set slot (.arr T t (dtake n xs))) (.own slot) u := by
    intro a hn hu
    subst hn; subst hu
    obtain ⟨m', hg, hrep⟩ := goes_new_empty (w := w) hkill.2 (isFree_set hs hsn) T h0 a
    exact ⟨m', hkill.trans hg, hrep⟩
  cases hm : m id with
  | none =>
    rw [hm] at hr hob
    obtain ⟨a, e1⟩ := hr
    simp only at hob
    subst hob
    have hn : n = 0 := by simpa using hle
    exact zero a hn (by rw [e1, hn])
  | some p =>
    obtain ⟨b, cap⟩ := p
    rw [hm] at hr hob
    obtain ⟨vs, row, e1, e2, e3, e4, e7, e8⟩ := hob
    obtain ⟨a, rfl, ha⟩ := hr
    rcases Nat.eq_zero_or_pos cap with hc | hc
    · have : n = 0 := by omega
      exact zero a this (by rw [this, hc])
    · have := ha hc
      rw [Nat.zero_mul] at this
      subst this
      have hk := fun (x : t.den) cs (h : Dat w F t x cs) => Dat.length t h
      have hlen : (xs.take n).length = n := by rw [List.length_take]; omega
      have hrw := rows_take hk n e7
      have hrl := rows_length hk hrw
      rw [hlen] at hrl
      have hg := Goes.move (w' := w) hi (owned_arr ho hf) hm hs (ob := .arr T t (dtake n xs)) trivial (b' := b) (c' := cap) (.inl rfl) rfl rfl rfl (Nat.le_refl _) (fun _ _ _ => rfl) (fun _ => ⟨h0, vs, row.take (n * t.size), e1, by
        show (xs.take n).length ≤ cap
        rw [hlen]; omega, e3, e4, hrw, by
        rw [hrl, ← e8, List.take_take, Nat.min_eq_left]
        rw [rows_length hk e7]
        exact Nat.mul_le_mul_right _ hle⟩)
      refine ⟨_, hg, ?_⟩
      have hlts := lt_of_get (isFree_iff hs).1
      unfold Rep
      rw [set_same (by simpa using hlts), upd_same]
      show Value.slice _ n (cap - 0) = Value.slice _ (xs.take n).length cap
      rw [hlen, Nat.sub_zero]

theorem takeBack_ok {s : Spec} (hs : SpecOK P g s) : SpecOK P g (takeBack s) := by
  intro R args H fz slot k r hk
  obtain ⟨v, e, h1, h2, h3, h4⟩ := hs R args H fz slot _ r hk
  unfold takeK at h1
  split at h1
  · rename_i he
    split at h1
    · rename_i id n
      split at h1
      · rename_i T t xs ho
        split at h1
        · rename_i hc
          refine ⟨_, _, h1, fun R' k' => ?_, h3, fun w F m vals hi hr => ?_⟩
          · unfold takeBack
            rw [h2]
            simp only [takeK, he, ho, hc]
          · refine (h4 w F m vals hi hr).mono ?_
            rintro en w' ⟨u, rfl, F', m', hg, hrep⟩
            simp only [Bool.and_eq_true] at hc
            obtain ⟨m2, hg2, hr2⟩ := goes_take hg.2 ho hc.1.1 hc.1.2 hrep
            have eH : appH { objs := e.objs ++ [(id, .dead), (slot + 3, .arr T t (dtake n xs))], frz := e.frz } H = ((appH e H).set id .dead).set (slot + 3) (.arr T t (dtake n xs)) := by
              rw [appH_none rfl, appH_none he, setObjs_app]
              rfl
            have eF : appF { objs := e.objs ++ [(id, .dead), (slot + 3, .arr T t (dtake n xs))], frz := e.frz } fz = appF e fz := by
              rw [appF_none rfl, appF_none he]
            refine ⟨u, rfl, F', m2, ?_, ?_⟩
            · rw [eH, eF]; exact hg.trans hg2
            · rw [eH]; exact hr2
        · cases h1
      · cases h1
    · cases h1
  · cases h1

theorem mkCall_none {na : Nat} {its outs : Items} {rs : List RS} {f : denL (leaves its) → Option (denL (leaves outs))} (hf : ∀ x, f x = none) : SpecOK P g (mkCall na its outs rs f) := by
  intro R args H fz slot k r hk
  unfold mkCall at hk
  split at hk
  · cases hk
  · split at hk
    · cases hk
    · rw [hf] at hk; cases hk
end

section
variable {S : List Nat} {H H' : List Ob}

theorem LocalSpec.toIn {s : Spec} (h : LocalSpec s) : LocalIn s :=
  fun R args H H' fz fz' slot k S hS _ ha => h R args H H' fz fz' slot k ⟨fun id hid => ha.heap id (hS id hid), ha.slotH, ha.slotF, ha.len, fun id hid => by cases hid⟩

/-- no item is an object by its number -/
def noObj : Items → Bool
  | [] => true
  | (.obj _, _) :: _ => false
  | _ :: r => noObj r

def refsIn (S : List Nat) (v : AV) : Prop := ∀ id ∈ refsAV v, id ∈ S
def bsIn (S : List Nat) (bs : List Bnd) : Prop := ∀ b ∈ bs, ∀ id, b.id? = some id → id ∈ S

theorem bsIn.get {bs : List Bnd} (h : bsIn S bs) {j : Nat} {b : Bnd} {id : Nat} (hj : bs[j]? = some b) (hi : b.id? = some id) : id ∈ S := h b (List.mem_of_getElem? hj) id hi
theorem bsIn.snoc {bs : List Bnd} (h : bsIn S bs) {b : Bnd} (hb : ∀ id, b.id? = some id → id ∈ S) : bsIn S (bs ++ [b]) := by
  intro x hx id hi
  rcases List.mem_append.1 hx with hx | hx
  · exact h x hx id hi
  · simp only [List.mem_singleton] at hx; subst hx; exact hb id hi

theorem look_in {tm : List AV} {bs : List Bnd} {l : Loc} (hS : ∀ id ∈ refsL tm, id ∈ S) (hc : ClosedS S H) (hH : ∀ id ∈ S, H[id]? = H'[id]?) (hb : bsIn S bs) (hl : ∀ j, l ≠ .obj j) :
    look tm H bs l = look tm H' bs l ∧ ∀ v, look tm H bs l = some v → refsIn S v := by
  cases l with
  | tmp t =>
    refine ⟨rfl, fun v hv id hid => hS id ?_⟩
    exact refsL_of_mem (List.mem_of_getElem? hv) hid
  | cell j c =>
    simp only [look]
    cases hj : bs[j]? with
    | none => exact ⟨rfl, fun v hv => by cases hv⟩
    | some b =>
      cases b with
      | none => exact ⟨rfl, fun v hv => by cases hv⟩
      | cut id => exact ⟨rfl, fun v hv => by cases hv⟩
      | whole id =>
        have hid := hb.get hj (id := id) rfl
        simp only
        rw [hH id hid]
        refine ⟨rfl, fun v hv => ?_⟩
        cases ho : H'[id]? with
        | none => rw [ho] at hv; cases hv
        | some o =>
          rw [ho] at hv
          cases o <;> simp only at hv <;> first | (cases hv; done) | skip
          rename_i cs
          intro i hi
          exact hc id hid cs (by rw [hH id hid, ho]) i (refsL_of_mem (List.mem_of_getElem? hv) hi)
  | cap t i =>
    refine ⟨rfl, fun v hv => ?_⟩
    simp only [look] at hv
    cases ht : tm[t]? with
    | none => rw [ht] at hv; cases hv
    | some a =>
      rw [ht] at hv
      cases a <;> simp only at hv <;> first | (cases hv; done) | skip
      rename_i f cs
      intro id hid
      refine hS id (refsL_of_mem (List.mem_of_getElem? ht) ?_)
      simp only [refsAV]
      exact refsL_of_mem (List.mem_of_getElem? hv) hid
  | obj j => exact absurd rfl (hl j)

theorem setFrz_agree {f : List Nat} {fz fz' : List Bool} (hl : fz.length = fz'.length) {id : Nat} (h : fz.getD id false = fz'.getD id false) : (setFrz f fz).getD id false = (setFrz f fz').getD id false := by
  rw [setFrz_getD, setFrz_getD, h, hl]

theorem dec_in {tm : List AV} (hS : ∀ id ∈ refsL tm, id ∈ S) (hc : ClosedS S H) (hH : ∀ id ∈ S, H[id]? = H'[id]?) : ∀ (its : Items) (fz fz' : List Bool) (bs : List Bnd), noObj its = true → bsIn S bs → fz.length = fz'.length → (∀ id ∈ S, fz.getD id false = fz'.getD id false) →
    dec tm H its fz bs = dec tm H' its fz' bs := by
  intro its
  induction its with
  | nil => intro fz fz' bs _ _ _ _; rfl
  | cons p r ih =>
    intro fz fz' bs hn hb hlen hz
    obtain ⟨l, c⟩ := p
    have hno : (∀ j, l ≠ .obj j) ∧ noObj r = true := by
      cases l with
      | obj j => cases hn
      | tmp t => exact ⟨fun j h => (by cases h), hn⟩
      | cell a b => exact ⟨fun j h => (by cases h), hn⟩
      | cap a b => exact ⟨fun j h => (by cases h), hn⟩
    obtain ⟨e1, e2⟩ := look_in hS hc hH hb hno.1
    have ihr := fun bs hb => ih fz fz' bs hno.2 hb hlen hz
    have unf : ∀ id ∈ S, unfrozen fz id = unfrozen fz' id := fun id hid => by unfold unfrozen; rw [hz id hid]
    cases c with
    | dat t =>
      simp only [dec, ← e1]
      cases hv : look tm H bs l with
      | none => rfl
      | some v =>
        simp only
        rw [asTy_local t v fun id hid => hH id (e2 v hv id hid)]
        cases asTy H' t v with
        | none => rfl
        | some q =>
          obtain ⟨x, f⟩ := q
          simp only
          rw [ih (setFrz f fz) (setFrz f fz') bs hno.2 hb (by rw [setFrz_len, setFrz_len, hlen]) (fun id hid => setFrz_agree hlen (hz id hid))]
    | own T e =>
      simp only [dec, ← e1]
      cases hv : look tm H bs l with
      | none => rfl
      | some v =>
        cases v with
        | nils e' => simp only; rw [ihr _ (hb.snoc fun id h => by cases h)]
        | own id =>
          have hid : id ∈ S := e2 _ hv id (by simp [refsAV])
          simp only
          rw [← hH id hid, unf id hid, ihr _ (hb.snoc fun id' h => by simp only [Bnd.id?, Option.some.injEq] at h; subst h; exact hid)]
        | win id off n =>
          have hid : id ∈ S := e2 _ hv id (by simp [refsAV])
          cases off with
          | succ off => rfl
          | zero =>
            simp only
            rw [← hH id hid, unf id hid, ihr _ (hb.snoc fun id' h => by simp only [Bnd.id?, Option.some.injEq] at h; subst h; exact hid)]
        | _ => rfl
    | box n =>
      simp only [dec, ← e1]
      cases hv : look tm H bs l with
      | none => rfl
      | some v =>
        cases v with
        | ptr id off =>
          have hid : id ∈ S := e2 _ hv id (by simp [refsAV])
          cases off with
          | succ off => rfl
          | zero =>
            simp only
            rw [← hH id hid, ihr _ (hb.snoc fun id' h => by simp only [Bnd.id?, Option.some.injEq] at h; subst h; exact hid)]
        | _ => rfl
    | map k v =>
      simp only [dec, ← e1]
      cases hv : look tm H bs l with
      | none => rfl
      | some u =>
        cases u with
        | mp id =>
          have hid : id ∈ S := e2 _ hv id (by simp [refsAV])
          simp only
          rw [← hH id hid, ihr _ (hb.snoc fun id' h => by simp only [Bnd.id?, Option.some.injEq] at h; subst h; exact hid)]
        | _ => rfl
    | own' j => simp only [dec, ← e1, ihr bs hb]
    | ptr' j off => simp only [dec, ← e1, ihr bs hb]
    | map' j => simp only [dec, ← e1, ihr bs hb]
    | sub' j => simp only [dec, ← e1, ihr bs hb]
    | win' j =>
      simp only [dec, ← e1]
      rw [ihr bs hb]
      cases hv : look tm H bs l with
      | none => rfl
      | some v =>
        cases v with
        | own id =>
          have hid : id ∈ S := e2 _ hv id (by simp [refsAV])
          cases bs[j]? with
          | none => rfl
          | some b =>
            cases b with
            | whole id' =>
              refine Eq.trans (b := match decide (id = id'), H[id]? with
                | true, some (.arr _ _ ys) => (match dec tm H' r fz' bs with
                  | some (xs, bs', g) => some ((dlen ys, xs), bs', g)
                  | none => none)
                | _, _ => none) rfl ?_
              rw [hH id hid]
              rfl
            | _ => rfl
        | win id off n =>
          cases off with
          | succ off => cases bs[j]? <;> rfl
          | zero =>
            cases bs[j]? with
            | none => rfl
            | some b => cases b <;> rfl
        | _ => cases bs[j]? <;> rfl
    | clo f ps => simp only [dec, ← e1, ihr bs hb]
    | nil e => simp only [dec, ← e1, ihr bs hb]

theorem idsOK_in {fz fz' : List Bool} : ∀ (n : Nat) (bs : List Bnd) (slot : Nat), (∀ s, slot ≤ s → s < slot + n → isFree H fz s = isFree H' fz' s) → idsOK H fz (idsOf n bs slot) bs = idsOK H' fz' (idsOf n bs slot) bs := by
  intro n
  induction n with
  | zero => intro bs slot _; cases bs <;> rfl
  | succ n ih =>
    intro bs slot h
    cases bs with
    | nil =>
      simp only [idsOf, idsOK, List.tail_nil]
      rw [h slot (Nat.le_refl _) (by omega), ih [] (slot + 1) fun s h1 h2 => h s (by omega) (by omega)]
    | cons b bs =>
      cases b with
      | whole id =>
        simp only [idsOf, idsOK, List.tail_cons]
        rw [ih bs slot fun s h1 h2 => h s h1 (by omega)]
      | none =>
        simp only [idsOf, idsOK, List.tail_cons]
        rw [h slot (Nat.le_refl _) (by omega), ih bs (slot + 1) fun s h1 h2 => h s (by omega) (by omega)]
      | cut id =>
        simp only [idsOf, idsOK, List.tail_cons]
        rw [h slot (Nat.le_refl _) (by omega), ih bs (slot + 1) fun s h1 h2 => h s (by omega) (by omega)]

theorem mkCall_in {na : Nat} {its outs : Items} {rs : List RS} {f : denL (leaves its) → Option (denL (leaves outs))} (hno : noObj its = true) (hn : Nat.ble (nobj outs) 4 = true) : LocalIn (mkCall na its outs rs f) := by
  intro R args H H' fz fz' slot k S hS hc ha
  have hn4 := Nat.le_of_ble_eq_true hn
  have hd : dec args H its fz [] = dec args H' its fz' [] := dec_in hS hc ha.heap its fz fz' [] hno (fun b hb => by cases hb) ha.len ha.wrF
  unfold mkCall
  rw [hd]
  split
  · rfl
  · rename_i x bs fr _
    split
    · rfl
    · split
      · rfl
      · have hf : ∀ (g : List Nat) s, slot ≤ s → s < slot + nobj outs → isFree H (setFrz g fz) s = isFree H' (setFrz g fz') s := fun g s h1 h2 => isFree_local ha h1 (by omega) g
        unfold backTo
        rw [idsOK_in (fz := fz) (fz' := fz') (nobj outs) bs slot (hf []), idsOK_in (fz := setFrz fr fz) (fz' := setFrz fr fz') (nobj outs) bs slot (hf fr)]

theorem idsOf_mem : ∀ (n : Nat) (bs : List Bnd) (slot i : Nat), i ∈ idsOf n bs slot → (∃ b ∈ bs, b.id? = some i) ∨ (slot ≤ i ∧ i < slot + n) := by
  intro n
  induction n with
  | zero => intro bs slot i h; cases bs <;> cases h
  | succ n ih =>
    intro bs slot i h
    have next : ∀ bs', i ∈ slot :: idsOf n bs' (slot + 1) → (∃ b ∈ bs', b.id? = some i) ∨ (slot ≤ i ∧ i < slot + (n + 1)) := by
      intro bs' h
      rcases List.mem_cons.1 h with rfl | h
      · exact .inr ⟨Nat.le_refl _, by omega⟩
      · rcases ih bs' (slot + 1) i h with h | h
        · exact .inl h
        · exact .inr ⟨by omega, by omega⟩
    cases bs with
    | nil => exact next [] h
    | cons b bs =>
      cases b with
      | whole id =>
        simp only [idsOf] at h
        rcases List.mem_cons.1 h with rfl | h
        · exact .inl ⟨.whole i, by simp, rfl⟩
        · rcases ih bs slot i h with ⟨b, hb, e⟩ | h
          · exact .inl ⟨b, by simp [hb], e⟩
          · exact .inr ⟨h.1, by omega⟩
      | none => rcases next bs h with ⟨b, hb, e⟩ | h; exact .inl ⟨b, by simp [hb], e⟩; exact .inr h
      | cut id => rcases next bs h with ⟨b, hb, e⟩ | h; exact .inl ⟨b, by simp [hb], e⟩; exact .inr h

/-- what is decoded lies in the set, too -/
theorem dec_bs_in {tm : List AV} (hS : ∀ id ∈ refsL tm, id ∈ S) (hc : ClosedS S H) : ∀ (its : Items) (fz : List Bool) (bs : List Bnd) (x : denL (leaves its)) (bs' : List Bnd) (fr : List Nat), noObj its = true → bsIn S bs →
    dec tm H its fz bs = some (x, bs', fr) → bsIn S bs' := by
  intro its
  induction its with
  | nil => intro fz bs x bs' fr _ hb h; simp only [dec, Option.some.injEq] at h; cases h; exact hb
  | cons p r ih =>
    intro fz bs x bs' fr hn hb h
    obtain ⟨l, c⟩ := p
    have hno : (∀ j, l ≠ .obj j) ∧ noObj r = true := by
      cases l with
      | obj j => cases hn
      | tmp t => exact ⟨fun j h => (by cases h), hn⟩
      | cell a b => exact ⟨fun j h => (by cases h), hn⟩
      | cap a b => exact ⟨fun j h => (by cases h), hn⟩
    have e2 := (look_in (H' := H) hS hc (fun _ _ => rfl) hb hno.1 (l := l)).2
    have one : ∀ {id : Nat} {b : Bnd}, id ∈ S → b.id? = some id → bsIn S (bs ++ [b]) := fun hid hbid => hb.snoc fun id' h' => by rw [hbid] at h'; cases h'; exact hid
    cases c <;> simp only [dec] at h
    case dat t =>
      split at h
      · split at h
        · split at h
          · split at h
            · rename_i hd; cases h; exact ih _ _ _ _ _ hno.2 hb hd
            · cases h
          · cases h
        · cases h
      · cases h
    case own T e =>
      split at h
      · split at h
        · split at h
          · rename_i hd; cases h; exact ih _ _ _ _ _ hno.2 (hb.snoc fun id h => by cases h) hd
          · cases h
        · cases h
      · rename_i id hl
        split at h
        · split at h
          · split at h
            · rename_i hd; cases h; exact ih _ _ _ _ _ hno.2 (one (e2 _ hl id (by simp [refsAV])) rfl) hd
            · cases h
          · cases h
        · cases h
      · rename_i id n hl
        split at h
        · split at h
          · split at h
            · rename_i hd; cases h; exact ih _ _ _ _ _ hno.2 (one (e2 _ hl id (by simp [refsAV])) rfl) hd
            · cases h
          · cases h
        · cases h
      · cases h
    case box n =>
      split at h
      · rename_i id hl
        split at h
        · split at h
          · exact ih _ _ _ _ _ hno.2 (one (e2 _ hl id (by simp [refsAV])) rfl) h
          · cases h
        · cases h
      · cases h
    case map k v =>
      split at h
      · rename_i id hl
        split at h
        · split at h
          · split at h
            · rename_i hd; cases h; exact ih _ _ _ _ _ hno.2 (one (e2 _ hl id (by simp [refsAV])) rfl) hd
            · cases h
          · cases h
        · cases h
      · cases h
    case own' j =>
      split at h
      · split at h
        · exact ih _ _ _ _ _ hno.2 hb h
        · cases h
      · cases h
    case ptr' j off =>
      split at h
      · split at h
        · exact ih _ _ _ _ _ hno.2 hb h
        · cases h
      · cases h
    case map' j =>
      split at h
      · split at h
        · exact ih _ _ _ _ _ hno.2 hb h
        · cases h
      · cases h
    case win' j =>
      split at h
      · split at h
        · split at h
          · rename_i hd; cases h; exact ih _ _ _ _ _ hno.2 hb hd
          · cases h
        · cases h
      · split at h
        · split at h
          · rename_i hd; cases h; exact ih _ _ _ _ _ hno.2 hb hd
          · cases h
        · cases h
      · cases h
    case sub' j =>
      split at h
      · split at h
        · split at h
          · rename_i hd; cases h; exact ih _ _ _ _ _ hno.2 hb hd
          · cases h
        · cases h
      · cases h
    case clo f ps =>
      split at h
      · split at h
        · exact ih _ _ _ _ _ hno.2 hb h
        · cases h
      · cases h
    case nil e =>
      cases hv : look tm H bs l with
      | none => rw [hv] at h; cases h
      | some v =>
        rw [hv] at h
        cases v <;> simp only at h <;> first | exact ih _ _ _ _ _ hno.2 hb h | cases h

theorem take_in {na : Nat} {its outs : Items} {rs : List RS} {f : denL (leaves its) → Option (denL (leaves outs))} (hno : noObj its = true) (hn : Nat.ble (nobj outs) 4 = true) : LocalIn (takeBack (mkCall na its outs rs f)) := by
  intro R args H H' fz fz' slot k hS0 hS hc ha
  have hn4 := Nat.le_of_ble_eq_true hn
  have hd : dec args H its fz [] = dec args H' its fz' [] := dec_in hS hc ha.heap its fz fz' [] hno (fun b hb => by cases hb) ha.len ha.wrF
  have hbs : ∀ x bs fr, dec args H its fz [] = some (x, bs, fr) → bsIn hS0 bs := fun x bs fr h => dec_bs_in hS hc its fz [] x bs fr hno (fun b hb => by cases hb) h
  unfold takeBack mkCall
  rw [hd] at hbs ⊢
  split
  · rfl
  · rename_i x bs fr hdec
    have hb := hbs x bs fr hdec
    split
    · rfl
    · split
      · rfl
      · rename_i y _
        have hf : ∀ (g : List Nat) s, slot ≤ s → s < slot + nobj outs → isFree H (setFrz g fz) s = isFree H' (setFrz g fz') s := fun g s h1 h2 => isFree_local ha h1 (by omega) g
        -- an object that is among the call's own
        have key : ∀ (e : Eff) (v : AV), e.heap = none → (∀ p ∈ e.objs, p.1 ∈ idsOf (nobj outs) bs slot) → takeK slot H fz k v e = takeK slot H' fz' k v e := by
          intro e v he ho
          unfold takeK
          rw [he]
          simp only
          have hfree : isFree (appH e H) (appF e fz) (slot + 3) = isFree (appH e H') (appF e fz') (slot + 3) := by
            rw [appH_none he, appH_none he, appF_none he, appF_none he]
            unfold isFree
            rw [setObjs_congr e.objs H H' (ha.slotH (slot + 3) (by omega) (by omega)), setFrz_agree ha.len (ha.slotF (slot + 3) (by omega) (by omega))]
          cases v with
          | win id off n =>
            cases off with
            | succ off => rfl
            | zero =>
              simp only
              cases hany : (e.objs.any fun p => Nat.beq p.1 id) with
              | false =>
                simp only [Bool.and_false]
                cases (appH e H)[id]? with
                | none => cases (appH e H')[id]? with
                  | none => rfl
                  | some o => cases o <;> rfl
                | some o => cases (appH e H')[id]? with
                  | none => cases o <;> rfl
                  | some o' => cases o <;> cases o' <;> rfl
              | true =>
                rw [List.any_eq_true] at hany
                obtain ⟨p, hp, hpi⟩ := hany
                have hpi := Nat.eq_of_beq_eq_true hpi
                subst hpi
                have hin := idsOf_mem _ _ _ _ (ho p hp)
                have h1 : H[p.1]? = H'[p.1]? := by
                  rcases hin with ⟨b, hbm, hbi⟩ | ⟨h1, h2⟩
                  · exact ha.heap _ (hb b hbm _ hbi)
                  · exact ha.slotH _ h1 (by omega)
                have h2 : fz.getD p.1 false = fz'.getD p.1 false := by
                  rcases hin with ⟨b, hbm, hbi⟩ | ⟨h1, h2⟩
                  · exact ha.wrF _ (hb b hbm _ hbi)
                  · exact ha.slotF _ h1 (by omega)
                have h3 : (appH e H)[p.1]? = (appH e H')[p.1]? := by
                  rw [appH_none he, appH_none he]
                  exact setObjs_congr e.objs H H' h1
                have h4 : unfrozen (appF e fz) p.1 = unfrozen (appF e fz') p.1 := by
                  rw [appF_none he, appF_none he]
                  unfold unfrozen
                  rw [setFrz_agree ha.len h2]
                rw [h3, h4, hfree]
          | _ => rfl
        unfold backTo
        rw [idsOK_in (fz := fz) (fz' := fz') (nobj outs) bs slot (hf []), idsOK_in (fz := setFrz fr fz) (fz' := setFrz fr fz') (nobj outs) bs slot (hf fr)]
        split
        · split
          · exact key { objs := _ } _ rfl fun p hp => (List.of_mem_zip hp).1
          · rfl
        · split
          · exact key { objs := _, frz := _ } _ rfl fun p hp => (List.of_mem_zip hp).1
          · rfl
end

/-- whose closure an argument is -/
def cloAt (i : Nat) (args : List AV) : Option FuncId :=
  match args[i]? with
  | some (.clo f _) => some f
  | _ => none

/-- a spec for calls with one closure -/
def Env.extC (E : Env) (g : FuncId) (i : Nat) (c : FuncId) (s : Spec) : Env where
  spec x := match Nat.beq x g with
    | true => fun R args H fz slot k => match cloAt i args with
      | some c' => match Nat.beq c' c with
        | true => s R args H fz slot k
        | false => E.spec x R args H fz slot k
      | .none => Option.none
    | false => E.spec x
  loc x := match Nat.beq x g with
    | true => false
    | false => E.loc x
  loc2 x := match Nat.beq x g with
    | true => E.loc2 g
    | false => E.loc2 x

theorem Env.extC_ok {P : Program} {E : Env} {g : FuncId} {i : Nat} {c : FuncId} {s : Spec} (h : EnvOK P E) (hs : SpecOK P g s) (hl2 : LocalIn s) : EnvOK P (E.extC g i c s) := by
  refine ⟨?_, ?_, ?_⟩
  · intro x
    simp only [Env.extC]
    cases hx : Nat.beq x g with
    | false => exact h.1 x
    | true =>
      have := Nat.eq_of_beq_eq_true hx
      subst this
      intro R args H fz slot k r hk
      simp only at hk
      split at hk
      · rename_i c' hc'
        split at hk
        · rename_i hb
          obtain ⟨v, e, h1, h2, h3, h4⟩ := hs R args H fz slot k r hk
          exact ⟨v, e, h1, fun R' k' => by simp only [hc', hb]; exact h2 R' k', h3, h4⟩
        · rename_i hb
          obtain ⟨v, e, h1, h2, h3, h4⟩ := h.1 x R args H fz slot k r hk
          exact ⟨v, e, h1, fun R' k' => by simp only [hc', hb]; exact h2 R' k', h3, h4⟩
      · cases hk
  · intro x hx
    simp only [Env.extC] at hx ⊢
    cases hb : Nat.beq x g with
    | true => rw [hb] at hx; cases hx
    | false => rw [hb] at hx; exact h.2.1 x hx
  · intro x hx
    simp only [Env.extC] at hx ⊢
    cases hb : Nat.beq x g with
    | true =>
      rw [hb] at hx
      have := Nat.eq_of_beq_eq_true hb
      subst this
      have h2 := h.2.2 x hx
      intro R args H H' fz fz' slot k S a1 a2 a3
      simp only
      split
      · split
        · exact hl2 R args H H' fz fz' slot k S a1 a2 a3
        · exact h2 R args H H' fz fz' slot k S a1 a2 a3
      · rfl
    | false => rw [hb] at hx; exact h.2.2 x hx
end Go.Pev
end
section
/- From a function's spec to the statement of a law: what is read as data is data of the evaluator. -/
namespace Go.Pev
open Go.RowKit Go.ChangeShapes Go.WideShapes Go.ChangeAt

def readFs (P : Program) (rd : TypeId → Option Ty) : List Field → Nat → Option Ty
  | [], _ => some .unit
  | f :: r, off => match rd f.type, readFs P rd r (off + P.cellsOf f.type) with
    | some a, some b => match Nat.beq f.offset off && Nat.beq (P.cellsOf f.type) a.size with
      | true => some (.prod a b)
      | false => none
    | _, _ => none

/-- a type of the program that is read as the evaluator's data; that the table's sizes fit -/
def readTy (P : Program) : Nat → TypeId → Option Ty
  | 0, _ => none
  | n + 1, t => match P.underlying t with
    | some .bool => some .bool
    | some (.int k) => some (.int k)
    | some (.slice e) => match readTy P n e with
      | some a => match Nat.beq (P.cellsOf e) a.size && !(Nat.beq a.size 0) with
        | true => some (.slice a)
        | false => none
      | none => none
    | some (.array c e) => match readTy P n e with
      | some a => match Nat.beq (P.cellsOf e) a.size && Nat.beq (P.cellsOf t) (c * a.size) with
        | true => some (.arr c a)
        | false => none
      | none => none
    | some (.struct fs) => match readFs P (readTy P n) fs.toList 0 with
      | some a => match Nat.beq (P.cellsOf t) a.size with
        | true => some a
        | false => none
      | none => none
    | _ => none

/-- numbers are of their kinds -/
def wfD : (t : Ty) → t.den → Prop
  | .unit, _ => True
  | .bool, _ => True
  | .int k, n => k.min ≤ n ∧ n ≤ k.max
  | .slice e, xs => List.length (α := e.den) xs ≤ maxLen ∧ ∀ x ∈ (xs : List e.den), wfD e x
  | .prod a b, d => wfD a d.1 ∧ wfD b d.2
  | .arr n e, xs => List.length (α := e.den) xs = n ∧ ∀ x ∈ (xs : List e.den), wfD e x

section
variable {H : Type} {enc : TypeId × Value → H} {P : Program} {w : World} {spare : Nat → Bool} {held : Bool}

abbrev below (w : World) : Nat → Prop := fun b => b < w.heap.size

theorem wf_int {k : IntKind} {n : Int} (h : (Lit.int k n).wf = true) : k.min ≤ n ∧ n ≤ k.max := by
  simpa [Lit.wf] using h

theorem rows_of {α : Type} {R : α → List Value → Prop} {k : Nat} : ∀ (m : Nat) (f : Nat → List Value), (∀ i, i < m → (f i).length = k ∧ ∃ x, R x (f i)) → ∃ xs : List α, xs.length = m ∧ rows R xs ((List.range m).flatMap f) ∧ ∀ x ∈ xs, ∃ i, i < m ∧ R x (f i) := by
  intro m
  induction m with
  | zero => intro f _; exact ⟨[], rfl, rfl, fun x hx => by cases hx⟩
  | succ m ih =>
    intro f h
    obtain ⟨xs, h1, h2, h3⟩ := ih f fun i hi => h i (by omega)
    obtain ⟨_, x, hx⟩ := h m (by omega)
    refine ⟨xs ++ [x], by simp [h1], ?_, fun y hy => ?_⟩
    · rw [List.range_succ, List.flatMap_append]
      exact rows_app h2 (by simp; exact ⟨f m, [], by simp, hx, rfl⟩)
    · rcases List.mem_append.1 hy with hy | hy
      · obtain ⟨i, hi, hr⟩ := h3 y hy; exact ⟨i, by omega, hr⟩
      · simp only [List.mem_singleton] at hy; subst hy; exact ⟨m, by omega, hx⟩

theorem flat_get {f : Nat → List Value} {k : Nat} : ∀ (m : Nat), (∀ i, i < m → (f i).length = k) → ∀ (j : Nat) (u : Value), ((List.range m).flatMap f)[j]? = some u → ∃ i r, i < m ∧ r < k ∧ j = i * k + r ∧ (f i)[r]? = some u := by
  intro m
  induction m with
  | zero => intro _ j u h; simp at h
  | succ m ih =>
    intro hl j u h
    rw [List.range_succ, List.flatMap_append] at h
    have hlen : ∀ m', m' ≤ m → ((List.range m').flatMap f).length = m' * k := by
      intro m' hm'
      induction m' with
      | zero => simp
      | succ m' ih' =>
        rw [List.range_succ, List.flatMap_append, List.length_append, ih' (by omega)]
        simp [hl m' (by omega), Nat.add_mul]
    rcases Nat.lt_or_ge j (m * k) with hj | hj
    · rw [List.getElem?_append_left (by rw [hlen m (Nat.le_refl _)]; exact hj)] at h
      obtain ⟨i, r, h1, h2, h3, h4⟩ := ih (fun i hi => hl i (by omega)) j u h
      exact ⟨i, r, by omega, h2, h3, h4⟩
    · rw [List.getElem?_append_right (by rw [hlen m (Nat.le_refl _)]; exact hj), hlen m (Nat.le_refl _)] at h
      simp only [List.flatMap_cons, List.flatMap_nil, List.append_nil] at h
      have hr : j - m * k < k := by
        have := lt_of_get' h
        rwa [hl m (by omega)] at this
      exact ⟨m, j - m * k, by omega, hr, by omega, h⟩

theorem addr_add (a : Addr) (i j : Nat) : (a.add i).add j = a.add (i + j) := by
  unfold Addr.add
  by_cases hi : i = 0
  · subst hi; simp
  · by_cases hj : j = 0
    · subst hj; simp
    · have : ¬ (i + j = 0) := by omega
      simp [hi, hj, Nat.add_assoc]

theorem choose_lt' {α : Type} [Inhabited α] {n : Nat} {p : Nat → α → Prop} (h : ∀ i, i < n → ∃ x, p i x) : ∃ f : Nat → α, ∀ i, i < n → p i (f i) := by
  classical
  refine ⟨fun i => if hi : i < n then Classical.choose (h i hi) else default, fun i hi => ?_⟩
  simp only [dif_pos hi]
  exact Classical.choose_spec (h i hi)

theorem readFs_dat {rd : TypeId → Option Ty} {cs : List Value} (hrd : ∀ (f : Field) (a : Ty), rd f.type = some a → (P.cellsOf f.type = a.size) → (∃ y : Nat × (DataW H × List MemPlace), DataW.trod enc P w 0 spare held y.1 f.type ((cs.drop f.offset).take (P.cellsOf f.type)) = some y.2) → ∃ d : a.den, Dat w (below w) a d ((cs.drop f.offset).take (P.cellsOf f.type)) ∧ wfD a d) :
    ∀ (fs : List Field) (off : Nat) (t : Ty), readFs P rd fs off = some t → off + t.size = cs.length → (∀ f ∈ fs, ∃ y : Nat × (DataW H × List MemPlace), DataW.trod enc P w 0 spare held y.1 f.type ((cs.drop f.offset).take (P.cellsOf f.type)) = some y.2) →
      ∃ d : t.den, Dat w (below w) t d (cs.drop off) ∧ wfD t d := by
  intro fs
  induction fs with
  | nil =>
    intro off t h hl _
    simp only [readFs, Option.some.injEq] at h
    subst h
    refine ⟨(), ?_, trivial⟩
    show cs.drop off = []
    simp [Ty.size] at hl
    exact List.drop_eq_nil_of_le (by omega)
  | cons f r ih =>
    intro off t h hl hf
    simp only [readFs] at h
    split at h
    · rename_i a b ha hb
      split at h
      · rename_i hc
        simp only [Option.some.injEq] at h
        subst h
        simp only [Bool.and_eq_true] at hc
        have h1 := Nat.eq_of_beq_eq_true hc.1
        have h2 := Nat.eq_of_beq_eq_true hc.2
        obtain ⟨d, hd, hw⟩ := hrd f a ha h2 (hf f (by simp))
        simp only [Ty.size] at hl
        obtain ⟨e, he, hw'⟩ := ih (off + P.cellsOf f.type) b hb (by omega) fun g hg => hf g (by simp [hg])
        refine ⟨(d, e), ⟨(cs.drop off).take (P.cellsOf f.type), cs.drop (off + P.cellsOf f.type), ?_, ?_, he⟩, hw, hw'⟩
        · rw [← List.drop_drop, List.take_append_drop]
        · rw [h1] at hd; exact hd
      · cases h
    · cases h

theorem trod_dat : ∀ (n : Nat) (t : TypeId) (ty : Ty) (fuel : Nat) (cs : List Value) (x : DataW H × List MemPlace), readTy P n t = some ty → DataW.trod enc P w 0 spare held fuel t cs = some x → ∃ d : ty.den, Dat w (below w) ty d cs ∧ wfD ty d := by
  intro n
  induction n with
  | zero => intro t ty fuel cs x h; cases h
  | succ n ih =>
    intro t ty fuel cs x h hx
    simp only [readTy] at h
    split at h
    · rename_i hu
      simp only [Option.some.injEq] at h; subst h
      obtain ⟨b, rfl, _⟩ := DataW.trod_bool hu hx
      exact ⟨b, rfl, trivial⟩
    · rename_i k hu
      simp only [Option.some.injEq] at h; subst h
      obtain ⟨m, rfl, _, hw⟩ := DataW.trod_int hu hx
      exact ⟨m, rfl, wf_int hw⟩
    · rename_i e hu
      split at h
      · rename_i a ha
        split at h
        · rename_i hc
          simp only [Option.some.injEq] at h; subst h
          rw [Bool.and_eq_true] at hc
          have hpos : a.size ≠ 0 := fun h0 => by rw [h0] at hc; simp at hc
          have hc := Nat.eq_of_beq_eq_true hc.1
          rcases DataW.trod_slice hu hx with ⟨rfl, _⟩ | ⟨ad, len, cap, elems, rest, m, rfl, rfl, _, _, hle, hmax, hlen, hel, _⟩
          · exact ⟨[], ⟨none, 0, rfl, Nat.le_refl _, fun hne => absurd rfl hne⟩, Nat.zero_le _, fun x hx => by cases hx⟩
          · -- each element
            have each : ∀ i, i < len → ∃ cs', w.cells? 0 (ad.add (i * P.cellsOf e)) (P.cellsOf e) = some cs' ∧ ∃ d : a.den, Dat w (below w) a d cs' ∧ wfD a d := by
              intro i hi
              have h1 := hel i hi
              rw [List.getElem?_eq_getElem (by omega), Option.bind_eq_some_iff] at h1
              obtain ⟨cs', h2, h3⟩ := h1
              exact ⟨cs', h2, ih e a m cs' _ ha h3⟩
            obtain ⟨f, hf⟩ := choose_lt' (α := List Value) (p := fun i cs' => w.cells? 0 (ad.add (i * P.cellsOf e)) (P.cellsOf e) = some cs' ∧ ∃ d : a.den, Dat w (below w) a d cs' ∧ wfD a d) each
            have hfl : ∀ i, i < len → (f i).length = a.size := by
              intro i hi
              obtain ⟨_, hl, _⟩ := World.cells?_some (hf i hi).1
              rw [hl, hc]
            obtain ⟨xs, h1, h2, h3⟩ := rows_of (R := fun (d : a.den) cs => Dat w (below w) a d cs ∧ wfD a d) (k := a.size) len f fun i hi => ⟨hfl i hi, (hf i hi).2⟩
            refine ⟨xs, ⟨some ad, cap, by rw [h1], by rw [h1]; exact hle, fun hne => ⟨ad, (List.range len).flatMap f, rfl, ?_, rows_mono (fun x _ cs hx => hx.1) h2, fun j u hu => ?_⟩⟩, by rw [h1]; exact Nat.le_trans hle hmax, fun x hx => ?_⟩
            · -- the block is there
              have hl0 : 0 < len := by
                rcases Nat.eq_zero_or_pos len with h0 | h0
                · exact absurd (List.eq_nil_of_length_eq_zero (by rw [h1, h0])) hne
                · exact h0
              have hb := World.cells?_block (hf 0 hl0).1 (by omega)
              rw [Nat.zero_mul] at hb
              have e0 : ad.add 0 = ad := by simp [Addr.add]
              rw [e0] at hb
              exact hb
            · obtain ⟨i, r, hi, hr, rfl, hur⟩ := flat_get len hfl j u hu
              obtain ⟨_, _, hcell⟩ := World.cells?_some (hf i hi).1
              have := hcell r (by rw [hc]; exact hr)
              rw [hur] at this
              rw [← this, hc, addr_add]
            · obtain ⟨i, _, hr⟩ := h3 x hx
              exact hr.2
        · cases h
      · cases h
    · rename_i c e hu
      split at h
      · rename_i a ha
        split at h
        · rename_i hc
          simp only [Option.some.injEq] at h; subst h
          rw [Bool.and_eq_true] at hc
          have hc1 := Nat.eq_of_beq_eq_true hc.1
          have hc2 := Nat.eq_of_beq_eq_true hc.2
          obtain ⟨xs, m, rfl, _, hl, hxs, hfs⟩ := DataW.trod_array hu hx
          rw [hc2] at hl
          obtain ⟨ys, h1, h2, h3⟩ := rows_of (R := fun (d : a.den) cs => Dat w (below w) a d cs ∧ wfD a d) (k := a.size) c (fun i => (cs.drop (i * a.size)).take a.size) fun i hi => by
            have hi1 : i * a.size + a.size ≤ c * a.size := by
              have := Nat.mul_le_mul_right a.size (show i + 1 ≤ c from hi)
              rwa [Nat.add_mul, Nat.one_mul] at this
            have h1 := hfs i hi
            rw [List.getElem?_eq_getElem (by omega), hc1] at h1
            exact ⟨by rw [List.length_take, List.length_drop, hl]; omega, ih e a m _ _ ha h1⟩
          have hjoin : ∀ k, k ≤ c → (List.range k).flatMap (fun i => (cs.drop (i * a.size)).take a.size) = cs.take (k * a.size) := by
            intro k
            induction k with
            | zero => intro _; simp
            | succ k ihk =>
              intro hk
              rw [List.range_succ, List.flatMap_append, ihk (by omega), Nat.add_mul, Nat.one_mul, List.take_add]
              simp
          rw [hjoin c (Nat.le_refl _), ← hl, List.take_length] at h2
          exact ⟨ys, ⟨h1, rows_mono (fun x _ cs hx => hx.1) h2⟩, h1, fun x hx => by obtain ⟨i, _, hr⟩ := h3 x hx; exact hr.2⟩
        · cases h
      · cases h
    · rename_i fs hu
      split at h
      · rename_i a ha
        split at h
        · rename_i hc
          simp only [Option.some.injEq] at h; subst h
          have hc := Nat.eq_of_beq_eq_true hc
          obtain ⟨xs, m, rfl, _, hl, hxs, hfs⟩ := DataW.trod_struct hu hx
          obtain ⟨d, hd, hw⟩ := readFs_dat (enc := enc) (w := w) (spare := spare) (held := held) (cs := cs) (fun f b hb _ ⟨y, hy⟩ => ih f.type b y.1 _ y.2 hb hy) fs.toList 0 _ ha (by rw [hl, hc]; omega) (fun f hf => by
            obtain ⟨i, hi⟩ := List.getElem?_of_mem hf
            have h1 := hfs i f (by simpa using hi)
            have hlt : i < xs.length := by rw [hxs]; simpa using lt_of_get' hi
            rw [List.getElem?_eq_getElem hlt] at h1
            exact ⟨(m, xs[i]), h1⟩)
          rw [List.drop_zero] at hd
          exact ⟨d, hd, hw⟩
        · cases h
      · cases h
    · cases h

/-- a value that is read as data -/
theorem okWide_one {r : Reach} {b0 : Nat} {t : TypeId} {v : Value} (hval : Value.okWide P w r b0 t v) (hn : ∀ d, P.underlying t = some d → (match d with | .bool | .int _ | .slice _ => true | _ => false) = true) {ty : Ty} {n : Nat} (h : readTy P (n + 1) t = some ty) : v.cells.toList = [v] := by
  simp only [Value.okWide] at hval
  have hu : ∃ d, P.underlying t = some d := by
    cases hu : P.underlying t with
    | none => simp only [readTy, hu] at h; cases h
    | some d => exact ⟨d, rfl⟩
  obtain ⟨d, hu⟩ := hu
  have := hn d hu
  rw [hu] at hval
  cases d <;> simp only [Bool.false_eq_true] at this <;> simp only [Cell.okWide, hu] at hval <;> cases v <;> first | rfl | (simp_all [Cell.ok])

theorem trod_rep {r : Reach} {b0 : Nat} {t : TypeId} {v : Value} {ps : List MemPlace} {dd : DataW H} (hval : Value.okWide P w r b0 t v) (hd : DataW.Trod enc P w 0 spare held t v dd ps) {ty : Ty} {n : Nat} (h : readTy P (n + 1) t = some ty) :
    ∃ d : ty.den, RepD w (below w) ty d v ∧ wfD ty d := by
  obtain ⟨fuel, hf⟩ := hd
  obtain ⟨d, h1, h2⟩ := trod_dat (n + 1) t ty fuel _ _ h hf
  refine ⟨d, ?_, h2⟩
  have one : (∀ d, P.underlying t = some d → (match d with | .bool | .int _ | .slice _ => true | _ => false) = true) → ty.isAgg = false → RepD w (below w) ty d v := by
    intro hn hg
    unfold RepD
    rw [hg]
    rw [okWide_one hval hn h] at h1
    exact h1
  have agg : (∃ cs, v = .agg cs) → ty.isAgg = true → RepD w (below w) ty d v := by
    rintro ⟨cs, rfl⟩ hg
    unfold RepD
    rw [hg]
    exact ⟨cs, rfl, h1⟩
  have hu : ∃ d, P.underlying t = some d := by
    cases hu : P.underlying t with
    | none => simp only [readTy, hu] at h; cases h
    | some d => exact ⟨d, rfl⟩
  obtain ⟨td, hu⟩ := hu
  simp only [readTy, hu] at h
  split at h
  · rename_i hq; cases hq; simp only [Option.some.injEq] at h; subst h
    exact one (fun d hd => by rw [hu] at hd; cases hd; rfl) rfl
  · rename_i k hq; cases hq; simp only [Option.some.injEq] at h; subst h
    exact one (fun d hd => by rw [hu] at hd; cases hd; rfl) rfl
  · rename_i e hq; cases hq
    split at h
    · split at h
      · simp only [Option.some.injEq] at h; subst h
        exact one (fun d hd => by rw [hu] at hd; cases hd; rfl) rfl
      · cases h
    · cases h
  · rename_i c e hq; cases hq
    have hv : ∃ cs, v = .agg cs := by
      simp only [Value.okWide, hu] at hval
      obtain ⟨cs, rfl, _⟩ := hval
      exact ⟨cs, rfl⟩
    split at h
    · split at h
      · simp only [Option.some.injEq] at h; subst h
        exact agg hv rfl
      · cases h
    · cases h
  · rename_i fs hq; cases hq
    have hv : ∃ cs, v = .agg cs := by
      simp only [Value.okWide, hu] at hval
      obtain ⟨cs, rfl, _⟩ := hval
      exact ⟨cs, rfl⟩
    split at h
    · rename_i a ha
      split at h
      · simp only [Option.some.injEq] at h; subst h
        refine agg hv ?_
        cases hfs : fs.toList with
        | nil => rw [hfs] at ha; simp only [readFs, Option.some.injEq] at ha; subst ha; rfl
        | cons f r =>
          rw [hfs] at ha
          simp only [readFs] at ha
          split at ha
          · split at ha
            · simp only [Option.some.injEq] at ha; subst ha; rfl
            · cases ha
          · cases ha
      · cases h
    · cases h
  · cases h

/-- a function's run, out of its spec: of a world of which nothing is known -/
theorem calls_of_spec {g : FuncId} {s : Spec} (hs : SpecOK P g s) {args : List AV} {b : Bool} {e : Eff} (hrun : s (AV × Eff) args [] [] 0 (fun v e => some (v, e)) = some (.data .bool b, e)) {vals : List Value}
    (hr : RepL w (below w) (fun _ => none) [] args vals) : Calls P g vals.toArray w fun en w' => en = .returned (.bool b) ∧ Below w.heap.size w w' := by
  obtain ⟨v, e', h1, _, _, h4⟩ := hs _ args [] [] 0 _ _ hrun
  simp only [Option.some.injEq, Prod.mk.injEq] at h1
  obtain ⟨rfl, rfl⟩ := h1
  have hi : HI w (below w) (fun _ => none) [] [] := ⟨fun id o h => by simp at h, fun i j b c b' c' h => by simp [owned] at h, fun i b c h => by simp [owned] at h, fun i T t xs b c h => by simp at h, fun b h => h, rfl⟩
  refine (h4 w _ _ vals hi hr).mono ?_
  rintro en w' ⟨u, rfl, F', m', ⟨hx, _⟩, hu⟩
  have hb : u = .bool b := rep_bool hu
  subst hb
  exact ⟨rfl, hx.os, hx.tape, hx.output, hx.size, fun i hi => hx.keep i hi fun j c ho _ => by simp [owned] at ho⟩
end

section
variable {H : Type} {enc : TypeId × Value → H} {P : Program}
theorem post_of_below {f : Func} {s : ChangeSpec} {apart fresh handsOn again : Bool} {W W' : World} {args : Array Value} {v : Value} {ds gs : List (DataW H)} {before pa pv : List MemPlace}
    (hW : DataW.Whole enc P f.params.toList s.vars apart W args.toList ds gs before)
    (hres : ∀ (b : Nat) (sp : Nat → Bool) (hd : Bool), DataW.TrodAll enc P W' b sp hd f.resultTypes.toList (v.resultList f.resultTypes.size) (s.fn H (ds ++ gs)).results [])
    (hargs : ∀ sp : Nat → Bool, (∀ p ∈ before, sp p.block = true) → DataW.TrodAll enc P W' 0 sp true f.params.toList args.toList (s.fn H (ds ++ gs)).args pa)
    (hvars : ∀ sp : Nat → Bool, (∀ p ∈ before, sp p.block = true) → DataW.TrodVars enc P W' sp s.vars (s.fn H (ds ++ gs)).vars pv)
    (hps : before = pa ++ pv) (hb : Below W.heap.size W W')
    (hok : ∀ (j : Nat) (t : TypeId) (r : Value), f.resultTypes[j]? = some t → (v.resultList f.resultTypes.size)[j]? = some r → Value.okWide P W' .any 0 t r) :
    s.post enc P f apart fresh handsOn again W args v W' := by
  have hlt : ∀ p ∈ before, p.block < W.heap.size := fun p hp => hW.lt p hp
  have hold : ∀ p ∈ before, (fun b => decide (b < W.heap.size)) p.block = true := fun p hp => by simpa using hlt p hp
  refine ⟨ds, gs, before, [], pa, pv, hW, hres _ _ _, hargs _ hold, hvars _ hold, World.keptBut_mono (fun p hp => ⟨hp, ?_⟩) (hb.frame (· ∈ before)), fun _ => ?_⟩
  · rw [hps, List.mem_append] at hp
    exact Or.inr hp
  · obtain ⟨_, _, _, _, _, hz, hn⟩ := hW
    refine ⟨hok, _, _, ([] ++ pa) ++ pv, ⟨[] ++ pa, pv, trodAll_append (hargs _ (fun _ _ => rfl)) (hres _ _ _), hvars _ (fun _ _ => rfl), rfl, ?_, ?_⟩, ?_⟩
    · intro b off hp
      have hin : MemPlace.cell b off ∈ before := by rw [hps]; simpa using hp
      rw [hb.frozen (hlt _ hin)]
      exact hz b off hin
    · intro ha
      have := hn ha
      rw [hps] at this
      simpa using this
    · intro p hp _
      rw [hps]
      simpa using hp

/-- an argument reads behind the call as it did -/
theorem trod_after {t : TypeId} (hl : laidOutB P = true) (hr : P.readableRec t = true) (hrow : t < P.types.size) {W W' : World} {v : Value} {d : DataW H} {ps : List MemPlace}
    (h : DataW.Trod enc P W 0 (fun _ => true) true t v d ps) (hb : Below W.heap.size W W') (hlt : ∀ x ∈ ps, x.block < W.heap.size) {sp : Nat → Bool} (hs : ∀ x ∈ ps, sp x.block = true) :
    DataW.Trod enc P W' 0 sp true t v d ps :=
  WideElems.Trod_stays hl hr hrow h (fun x hx => hb.same (hlt x hx)) hs
end
end Go.Pev
end
section
namespace Go.Pev.Pl
open Go.RowKit
theorem alive12_true : alive12 () = some (true, ()) := by
  rw [alive12_ceq]
  kernel_rfl
theorem great12_val (b : Int) (c : List Int) (f : List Bool) : great12 ((b, (c, (f, ()))), ()) = some (decide (64 < c.length ∨ 64 < f.length), ()) := by
  rw [great12_eq, great12_d]
  simp only [dlen_l, ilt_eq]
  by_cases h : 64 < c.length
  · rw [decide_eq_true (show (64 : Int) < (c.length : Int) by omega), decide_eq_true (show 64 < c.length ∨ 64 < f.length from .inl h)]
  · rw [decide_eq_false (show ¬ (64 : Int) < (c.length : Int) by omega)]
    by_cases h2 : 64 < f.length
    · rw [decide_eq_true (show (64 : Int) < (f.length : Int) by omega), decide_eq_true (show 64 < c.length ∨ 64 < f.length from .inr h2)]
    · rw [decide_eq_false (show ¬ (64 : Int) < (f.length : Int) by omega), decide_eq_false (show ¬ (64 < c.length ∨ 64 < f.length) from fun h3 => h3.elim h h2)]
theorem wfD_u32s {xs : List Int} (h : wfD (.slice (.int .u32)) xs) : U32s xs := fun x hx => h.2 x hx
theorem u32s_len {b : Int} {xs : List Int} : (mkOut b xs).2.1.length ≤ 1024 ∧ (mkOut b xs).2.2.1.length ≤ 1024 := by
  rcases mkOut_cases b xs with ⟨e, _, h1⟩ | ⟨n, _, _, h2, _, h4, h5⟩
  · rw [h1]; simp
  · rw [h4]; exact tab_len h5 h2
theorem same12_self (a : Int × List Int × List Bool × Unit) (h1 : a.2.1.length < 4294967296) (h2 : a.2.2.1.length < 4294967296) : same12 (a, a, ()) = some (true, ()) := by
  rw [same12_val a a h1 h2, decide_eq_true rfl]
theorem ieq_self (a : Int) : ieq a a = true := by rw [ieq_eq]; simp

theorem putOut_len {b : Int} {c : List Int} {f : List Bool} {xs : List Int} (hc : c.length ≤ 1024) (hf : f.length ≤ 1024) : (putOut b c f xs).2.1.length ≤ 1024 ∧ (putOut b c f xs).2.2.1.length ≤ 1024 := by
  rw [putOut]
  split
  · split
    · exact u32s_len
    · exact ⟨hc, hf⟩
  · exact ⟨hc, hf⟩
theorem dropOut_len {b : Int} {c : List Int} {f : List Bool} {xs : List Int} (hc : c.length ≤ 1024) (hf : f.length ≤ 1024) : (dropOut b c f xs).2.1.length ≤ 1024 ∧ (dropOut b c f xs).2.2.1.length ≤ 1024 := by
  rw [dropOut]
  split
  · exact u32s_len
  · exact ⟨hc, hf⟩

theorem homes (b k : Int) (hk : 0 ≤ k ∧ k ≤ 4294967295) : ∃ h, home (b, k, ()) = some (h, ()) ∧ home12 (b, k, ()) = some (h, ()) := by
  by_cases h : 1 ≤ b ∧ b ≤ 10
  · obtain ⟨n, rfl⟩ : ∃ n : Nat, b = (n : Int) := ⟨b.toNat, by omega⟩
    exact ⟨_, home_val n k (by omega) (by omega), home12_val n k (by omega) (by omega) hk⟩
  · exact ⟨_, home_bad b k h, home12_bad b k h⟩

theorem tableAnswers_true (t : Int × List Int × List Bool × Unit) (keys' : List Int) (b : Int) (h0 : wfD (.prod (.int .i64) (.prod (.slice (.int .u32)) (.prod (.slice .bool) .unit))) t) (h1 : wfD (.slice (.int .u32)) keys') (h2 : wfD (.int .i64) b) : tableAnswers (t, keys', b, ()) = some (true, ()) := by
  obtain ⟨b0, c, f, _⟩ := t
  have hu : U32s c := wfD_u32s h0.2.1
  have hk := wfD_u32s h1
  rw [tableAnswers_eq, tableAnswers_d]
  simp only [alive12_true, Bool.not_true, great12_val]
  by_cases hg : 64 < c.length ∨ 64 < f.length
  · rw [decide_eq_true hg]
  · rw [decide_eq_false hg, dlen_l, ilt_eq]
    by_cases hl : 60 < keys'.length
    · rw [decide_eq_true (by omega)]
    · rw [decide_eq_false (by omega)]
      obtain ⟨p1, p2⟩ := putOut_len (b := b0) (c := c) (f := f) (xs := keys') (by omega) (by omega)
      obtain ⟨d1, d2⟩ := dropOut_len (b := b0) (c := c) (f := f) (xs := keys') (by omega) (by omega)
      obtain ⟨m1, m2⟩ := u32s_len (b := b) (xs := keys')
      simp only [put_val b0 c f keys' (by omega) (by omega), put12_val b0 c f keys' (by omega) (by omega) hu hk, drop_val b0 c f keys' (by omega) (by omega), drop12_val b0 c f keys' (by omega) (by omega) hu, make_val b keys' (by omega), make12_val b keys' (by omega) hk]
      generalize putOut b0 c f keys' = P at *
      generalize dropOut b0 c f keys' = D at *
      generalize mkOut b keys' = M at *
      obtain ⟨P0, P1, P2, P3, _⟩ := P
      obtain ⟨D0, D1, D2, D3, _⟩ := D
      obtain ⟨M0, M1, M2, M3, _⟩ := M
      simp only at p1 p2 d1 d2 m1 m2 ⊢
      rcases scanL (step := tableAnswers_s0) (fun i => (keys', b, b0, c, f, P0, P1, P2, P3, P0, P1, P2, P3, D0, D1, D2, D3, D0, D1, D2, D3, M0, M1, M2, M3, M0, M1, M2, M3, (i : Int), ())) keys'.length (fun _ => false) (fun _ => .inl (false, ()))
        (.inr (.inl (b0, c, f, P0, P1, P2, P3, P0, P1, P2, P3, D0, D1, D2, D3, D0, D1, D2, D3, M0, M1, M2, M3, M0, M1, M2, M3, ()))) (by omega)
        (fun i hi => by
          have hki := hk _ (getD_mem hi)
          obtain ⟨h, e1, e2⟩ := homes b (keys'.getD i 0) hki
          rw [tableAnswers_s0]
          simp (disch := omega) only [dlen_l, ilt_nat, hi, decide_true, idx_l (0 : Int), find_val b0 c f _ (show f.length < 2147483648 by omega), find12_val b0 c f _ (show f.length < 2147483648 by omega) hu hki, e1, e2, wrap_add1]
          generalize findOut b0 c f (keys'.getD i 0) = F
          obtain ⟨F0, F1, F2, _⟩ := F
          simp only [ieq_self, Bool.not_true, BEq.rfl]
          rfl) (by rw [tableAnswers_s0]; simp only [dlen_l, ilt_nat, Nat.lt_irrefl, decide_false]) with ⟨k, _, hP, _⟩ | ⟨_, e⟩
      · cases hP
      · have e' : iterL tableAnswers_s0 many (keys', b, b0, c, f, P0, P1, P2, P3, P0, P1, P2, P3, D0, D1, D2, D3, D0, D1, D2, D3, M0, M1, M2, M3, M0, M1, M2, M3, (0 : Int), ()) = _ := e
        have hkl := ups_len (kl c f)
        have hkl2 := kl_len c f
        simp only [e', same12_self (P0, P1, P2, ()) (by simp; omega) (by simp; omega), same12_self (D0, D1, D2, ()) (by simp; omega) (by simp; omega), same12_self (M0, M1, M2, ()) (by simp; omega) (by simp; omega), ieq_self,
          right_val b0 c f (show f.length < 2147483648 by omega), right12_val b0 c f (show f.length < 2147483648 by omega) hu, BEq.rfl, keys_val b0 c f (show f.length < 2147483648 by omega), keys12_val b0 c f (show f.length < 2147483648 by omega), words07_val _ _ (show (ups (kl c f)).length < 4294967296 by omega), decide_true]
end Go.Pev.Pl
end
section
namespace Go.Pev.Pl
theorem mem_kl_tab {n : Nat} {t : CF} {ks : List Int} (h : Holds12 n t ks) (x : Int) : x ∈ kl t.1 t.2 ↔ x ∈ ks := by
  rw [mem_kl]
  constructor
  · rintro ⟨i, _, _, h3, rfl⟩
    exact h.sub i h3
  · intro hx
    obtain ⟨a1, a2⟩ := h.at' x hx
    have hlt := spot_lt n t.1 t.2 x
    exact ⟨spot n t.1 t.2 x, by rw [h.lf]; exact hlt, by rw [h.lc]; exact hlt, a1, a2.symm⟩
theorem ups_kl {n : Nat} {t : CF} {ks : List Int} (h : Holds12 n t ks) (hu : Up ks) : ups (kl t.1 t.2) = ks :=
  up_unique (up_ups _) hu fun z => by rw [mem_ups, mem_kl_tab h]
theorem ups_up {ks : List Int} (hu : Up ks) : ups ks = ks := up_unique (up_ups _) hu fun z => mem_ups _ _

/-- a table of n bits that holds K -/
structure Tb (n : Nat) (c : List Int) (f : List Bool) (K : List Int) : Prop where
  n1 : 1 ≤ n
  n10 : n ≤ 10
  up : Up K
  few : K.length ≤ 2 ^ n * 3 / 4
  eq : tab n K = (c, f)

section
variable {n : Nat} {c : List Int} {f : List Bool} {K : List Int}
theorem Tb.holds (h : Tb n c f K) : Holds12 n (c, f) K := by
  obtain ⟨_, _, f3⟩ := pow_fact h.n1 h.n10
  have := tab_holds h.n10 h.up (by have := h.few; omega)
  rwa [h.eq] at this
theorem Tb.keys (h : Tb n c f K) : ups (kl c f) = K := ups_kl h.holds h.up
theorem Tb.mk' (h1 : 1 ≤ n) (h10 : n ≤ 10) (hu : Up K) (hl : K.length ≤ 2 ^ n * 3 / 4) : Tb n (tab n K).1 (tab n K).2 K := ⟨h1, h10, hu, hl, rfl⟩
theorem Tb.out (h : Tb n c f K) : mkOut (n : Int) K = ((n : Int), c, f, 0, ()) := by
  have hk := ups_up h.up
  rw [mkOut_ok h.n1 h.n10 (by rw [hk]; exact h.few), hk, h.eq]
theorem Tb.right (h : Tb n c f K) : rightB (n : Int) c f = true := by
  rw [rightB, decide_eq_true_eq, ← mkOut_ups, h.keys, h.out]
theorem Tb.lc (h : Tb n c f K) : c.length = 2 ^ n := h.holds.lc
theorem Tb.lf (h : Tb n c f K) : f.length = 2 ^ n := h.holds.lf
theorem Tb.small (h : Tb n c f K) : 2 ^ n ≤ 1024 := (pow_fact h.n1 h.n10).2.1
theorem Tb.stops (h : Tb n c f K) (k : Int) : far n c f k < 2 ^ n ∧ stopP c f k (spot n c f k) = true ∧ ∀ j, j < far n c f k → stopP c f k ((H n k + j) % 2 ^ n) = false :=
  spot_stop h.n10 (right_stops h.n1 h.n10 h.holds h.few k)
theorem Tb.full (h : Tb n c f K) (k : Int) : f.getD (spot n c f k) false = decide (k ∈ K) := by
  by_cases hk : k ∈ K
  · rw [decide_eq_true hk]
    exact (h.holds.at' k hk).1
  · rw [decide_eq_false hk]
    have h1 := (h.stops k).2.1
    rw [h.holds.empty hk] at h1
    simpa using h1
theorem Tb.cell (h : Tb n c f K) {k : Int} (hk : k ∈ K) : c.getD (spot n c f k) 0 = k := (h.holds.at' k hk).2
theorem Tb.find (h : Tb n c f K) (k : Int) : findOut (n : Int) c f k = if k ∈ K then (((spot n c f k : Nat) : Int), ((1 + far n c f k : Nat) : Int), true, ()) else (0, ((1 + far n c f k : Nat) : Int), false, ()) := by
  rw [findOut, h.right, Int.toNat_natCast, h.full]
  simp
theorem Tb.put (h : Tb n c f K) (xs : List Int) : (∃ c' f', Tb n c' f' (ups (K ++ xs)) ∧ putOut (n : Int) c f xs = ((n : Int), c', f', 0, ())) ∨ putOut (n : Int) c f xs = ((n : Int), c, f, 2, ()) := by
  rw [putOut, h.right, h.keys]
  by_cases hl : 2 ^ n * 3 / 4 < (ups (K ++ xs)).length
  · right
    have e : mkOut (n : Int) (K ++ xs) = (0, [], [], 2, ()) := by
      rw [mkOut, if_pos (by have := h.n1; have := h.n10; omega), Int.toNat_natCast, if_pos hl]
    rw [e]
    simp
  · left
    have ht := Tb.mk' (n := n) h.n1 h.n10 (up_ups (K ++ xs)) (by omega)
    have e := mkOut_ok (xs := K ++ xs) h.n1 h.n10 (by omega)
    refine ⟨_, _, ht, ?_⟩
    rw [e]
    simp
theorem up_without (hu : Up K) (xs : List Int) : Up (without K xs) := hu.filter _
theorem Tb.drop (h : Tb n c f K) (xs : List Int) : ∃ c' f', Tb n c' f' (without K xs) ∧ dropOut (n : Int) c f xs = ((n : Int), c', f', 0, ()) := by
  have hl : (without K xs).length ≤ K.length := List.length_filter_le _ _
  have hu := up_without h.up xs
  have ht := Tb.mk' (n := n) h.n1 h.n10 hu (by have := h.few; omega)
  refine ⟨_, _, ht, ?_⟩
  rw [dropOut, h.right, h.keys, if_pos rfl, mkOut_ok h.n1 h.n10 (by rw [ups_up hu]; exact ht.few), ups_up hu]
theorem Tb.same {c' : List Int} {f' : List Bool} (h : Tb n c f K) (h' : Tb n c' f' K) : c' = c ∧ f' = f := by
  have := h.eq.symm.trans h'.eq
  exact ⟨by injection this with a _; exact a.symm, by injection this with _ a; exact a.symm⟩
end
end Go.Pev.Pl
end
section
namespace Go.Pev.Pl
section
variable {n : Nat} {c : List Int} {f : List Bool} {K : List Int}
theorem rem_nat (a b : Nat) (h : 0 < b) : rem? (a : Int) (b : Int) = some ((a % b : Nat) : Int) := by
  rw [rem_eq, remR, if_neg (by omega), Int.tmod_eq_emod_of_nonneg (by omega)]
  rfl
theorem stop_false {k : Int} {p : Nat} (h : stopP c f k p = false) : f.getD p false = true ∧ ¬ c.getD p 0 = k := by
  rw [stopP] at h
  cases e : f.getD p false
  · rw [e] at h; simp at h
  · rw [e] at h
    exact ⟨rfl, by simpa using h⟩

theorem near_in (h : Tb n c f K) (all : List Int) (i : Nat) (hi : i < all.length) (a0 : List Int) (a1 a7 a12 a13 a15 a17 a18 a26 a27 : Int) (a9 a14 a16 a19 a20 a21 a22 a23 a24 a28 a29 : Bool) (a25 : List Int) :
    iterL tableNear_s1 many (a0, a1, c, f, all, ((2 ^ n : Nat) : Int), (i : Int), a7, ((1 + far n c f (all.getD i 0) : Nat) : Int), a9, ((H n (all.getD i 0) : Nat) : Int), (0 : Int), a12, a13, a14, a15, a16, a17, a18, a19, a20, a21, a22, a23, a24, a25, a26, a27, a28, a29, ()) =
      some (.inr (.inl (a0, a1, c, f, all, ((2 ^ n : Nat) : Int), (i : Int), a7, ((1 + far n c f (all.getD i 0) : Nat) : Int), a9, ((H n (all.getD i 0) : Nat) : Int), a12, a13, a14, a15, a16, a17, a18, a19, a20, a21, a22, a23, a24, a25, a26, a27, a28, a29, ()))) := by
  obtain ⟨q1, q2, q3⟩ := h.stops (all.getD i 0)
  have hsm := h.small
  have hH := H_lt n (all.getD i 0) h.n10
  have h0 : 0 < 2 ^ n := Nat.two_pow_pos n
  rcases scanL (step := tableNear_s1) (fun k => (a0, a1, c, f, all, ((2 ^ n : Nat) : Int), (i : Int), a7, ((1 + far n c f (all.getD i 0) : Nat) : Int), a9, ((H n (all.getD i 0) : Nat) : Int), (k : Int), a12, a13, a14, a15, a16, a17, a18, a19, a20, a21, a22, a23, a24, a25, a26, a27, a28, a29, ())) (far n c f (all.getD i 0)) (fun _ => false) (fun _ => .inl (false, ()))
    (.inr (.inl (a0, a1, c, f, all, ((2 ^ n : Nat) : Int), (i : Int), a7, ((1 + far n c f (all.getD i 0) : Nat) : Int), a9, ((H n (all.getD i 0) : Nat) : Int), a12, a13, a14, a15, a16, a17, a18, a19, a20, a21, a22, a23, a24, a25, a26, a27, a28, a29, ()))) (by omega)
    (fun k hk => by
      obtain ⟨s1, s2⟩ := stop_false (q3 k hk)
      have hp : (H n (all.getD i 0) + k) % 2 ^ n < 2 ^ n := Nat.mod_lt _ h0
      have i1 := h.lc
      have i2 := h.lf
      have s2' : (c.getD ((H n (all.getD i 0) + k) % 2 ^ n) 0 == all.getD i 0) = false := beq_false_of_ne s2
      rw [tableNear_s1]
      simp (disch := omega) only [wrap_sub1, wrap_add, wrap_add1, Nat.add_sub_cancel_left, ilt_nat, hk, decide_true, rem_nat, idx_l (0 : Int), idx_l false, dget_l, s1, s2', Bool.not_true, ieq_eq]
      rfl) (by
      rw [tableNear_s1]
      simp (disch := omega) only [wrap_sub1, Nat.add_sub_cancel_left, ilt_nat, Nat.lt_irrefl, decide_false]) with ⟨k, _, hP, _⟩ | ⟨_, e⟩
  · cases hP
  · exact e
end

theorem ilt_false {a b : Int} (h : b ≤ a) : ilt a b = false := by rw [ilt_eq, decide_eq_false (by omega)]
theorem ilt_true {a b : Int} (h : a < b) : ilt a b = true := by rw [ilt_eq, decide_eq_true h]
theorem ile_false {a b : Int} (h : b < a) : ile a b = false := by rw [ile_eq, decide_eq_false (by omega)]

theorem tableNear_true (b : Int) (keys' : List Int) (other : Int) (h0 : wfD (.int .u8) b) (h1 : wfD (.slice (.int .u32)) keys') (h2 : wfD (.int .u32) other) : tableNear (b, keys', other, ()) = some (true, ()) := by
  have hb : 0 ≤ b ∧ b ≤ 255 := h0
  rw [tableNear_eq, tableNear_d]
  simp only [alive12_true, Bool.not_true, dlen_l]
  by_cases hl : 48 < keys'.length
  · rw [ilt_true (by omega)]
  · rw [ilt_false (by omega)]
    obtain ⟨n, hn⟩ : ∃ n : Nat, 1 + b % 6 = (n : Int) := ⟨(1 + b % 6).toNat, by omega⟩
    have hr : rem? (IntKind.wrap .i64 b) 6 = some (b % 6) := by
      rw [wrap_in (by omega), rem_eq, remR, if_neg (by omega), Int.tmod_eq_emod_of_nonneg (by omega)]
    have hw : IntKind.wrap .i64 ((1 : Int) + b % 6) = (n : Int) := by rw [wrap_in (by omega), hn]
    have n1 : 1 ≤ n := by omega
    have n10 : n ≤ 10 := by omega
    simp only [hr, hw, make_val (n : Int) keys' (by omega)]
    by_cases hf : 2 ^ n * 3 / 4 < (ups keys').length
    · have e : mkOut (n : Int) keys' = (0, [], [], 2, ()) := by rw [mkOut, if_pos (by omega), Int.toNat_natCast, if_pos hf]
      rw [e]
      simp only [ieq_eq]
      rfl
    · have ht := Tb.mk' (n := n) (K := ups keys') n1 n10 (up_ups keys') (by omega)
      rw [mkOut_ok n1 n10 (by omega)]
      generalize (tab n (ups keys')).1 = c at *
      generalize (tab n (ups keys')).2 = f at *
      have hlc := ht.lc
      have hlf := ht.lf
      have hsm := ht.small
      have h0' : 0 < 2 ^ n := Nat.two_pow_pos n
      simp only [ieq_self, Bool.not_true, dapp, List.nil_append, List.length_append, List.length_cons, List.length_nil, hlc, hlf]
      rw [fits_l (by simp; omega)]
      simp only []
      rw [fits_l (by omega)]
      simp only []
      have hall : (keys' ++ [other]).length = keys'.length + 1 := by simp
      rcases scanL (step := tableNear_s0) (fun i => (keys', (n : Int), c, f, keys' ++ [other], ((2 ^ n : Nat) : Int), (i : Int), ())) (keys' ++ [other]).length (fun _ => false) (fun _ => .inl (false, ())) (.inr (.inl ())) (by omega)
        (fun i hi => by
          obtain ⟨q1, q2, q3⟩ := ht.stops ((keys' ++ [other]).getD i 0)
          have hH := H_lt n ((keys' ++ [other]).getD i 0) n10
          have hfull := ht.full ((keys' ++ [other]).getD i 0)
          have hmem : ∀ x, x ∈ ups keys' ↔ x ∈ keys' := mem_ups keys'
          have hspot : (H n ((keys' ++ [other]).getD i 0) + far n c f ((keys' ++ [other]).getD i 0)) % 2 ^ n = spot n c f ((keys' ++ [other]).getD i 0) := rfl
          have hlt := spot_lt n c f ((keys' ++ [other]).getD i 0)
          have hlast : IntKind.wrap .i64 (IntKind.wrap .i64 (((H n ((keys' ++ [other]).getD i 0) : Nat) : Int) + ((1 + far n c f ((keys' ++ [other]).getD i 0) : Nat) : Int)) - 1) = ((H n ((keys' ++ [other]).getD i 0) + far n c f ((keys' ++ [other]).getD i 0) : Nat) : Int) := by
            rw [wrap_in (n := _ + _) (by omega), wrap_in (by omega)]; omega
          rw [tableNear_s0]
          simp only [dlen_l, ilt_nat, hi, decide_true, idx_l (0 : Int) hi, dget_l, find_val (n : Int) c f _ (show f.length < 2147483648 by omega), ht.find, home_val n _ n1 n10]
          by_cases hk : (keys' ++ [other]).getD i 0 ∈ ups keys'
          · have hcell := ht.cell hk
            rw [decide_eq_true hk] at hfull
            have hk' := (hmem _).1 hk
            simp (disch := omega) only [if_pos hk, ilt_false, ile_false, Bool.not_true, has11_val keys' _ (by omega), decide_eq_true hk', BEq.rfl, near_in ht (keys' ++ [other]) i hi, hlast, rem_nat, hspot, ieq_self, idx_l false, idx_l (0 : Int), dget_l, hfull, hcell, wrap_add1]
            rfl
          · rw [decide_eq_false hk] at hfull
            have hk' : ¬ (keys' ++ [other]).getD i 0 ∈ keys' := fun e => hk ((hmem _).2 e)
            have hil : ¬ i < keys'.length := fun e => hk' (by
              have : (keys' ++ [other]).getD i 0 = keys'.getD i 0 := by simp [List.getD_eq_getElem?_getD, List.getElem?_append_left e]
              rw [this]
              exact getD_mem e)
            simp (disch := omega) only [if_neg hk, ilt_nat, hil, decide_false, ilt_false, ile_false, Bool.not_true, Bool.not_false, has11_val keys' _ (by omega), decide_eq_false hk', BEq.rfl, near_in ht (keys' ++ [other]) i hi, hlast, rem_nat, hspot, ieq_self, idx_l false, idx_l (0 : Int), dget_l, hfull, wrap_add1]
            rfl) (by rw [tableNear_s0]; simp only [dlen_l, ilt_nat, Nat.lt_irrefl, decide_false]) with ⟨k, _, hP, _⟩ | ⟨_, e⟩
      · cases hP
      · have e' : iterL tableNear_s0 many (keys', (n : Int), c, f, keys' ++ [other], ((2 ^ n : Nat) : Int), (0 : Int), ()) = _ := e
        simp only [e']
end Go.Pev.Pl
end
section
namespace Go.Pev.Pl
theorem sub1 {xs : List Int} {i : Nat} (h : i < xs.length) : subl xs (i : Int) ((i + 1 : Nat) : Int) = some [xs.getD i 0] := by
  rw [subl_l (by omega) (by omega), take_succ_getD h, List.drop_append_of_le_length (by rw [List.length_take]; omega)]
  rw [List.drop_eq_nil_of_le (by rw [List.length_take]; omega)]
  rfl
theorem without_snoc (K xs : List Int) (x : Int) : without K (xs ++ [x]) = without (without K xs) [x] := by
  rw [without, without, without, List.filter_filter]
  apply List.filter_congr
  intro a _
  by_cases h1 : a ∈ xs <;> by_cases h2 : a = x <;> simp [h1, h2]
theorem without_nil (K : List Int) : without K [] = K := by rw [without, List.filter_eq_self]; intro a _; simp

/-- the puts, one by one -/
theorem set_puts {n : Nat} (puts drops : List Int) (hp : puts.length ≤ 30) : ∀ (m i q : Nat) (c : List Int) (f : List Bool) (K : List Int), puts.length - i = m → i ≤ puts.length → m < q → Tb n c f K →
    ∃ c' f' K', Tb n c' f' K' ∧ iterO tableSet_s0 q (puts, drops, (n : Int), (n : Int), c, f, (i : Int), ()) = some (.inr (.inl (drops, (n : Int), (n : Int), c', f', ()))) := by
  intro m
  induction m with
  | zero =>
    intro i q c f K hk hi hq ht
    obtain ⟨q, rfl⟩ : ∃ k, q = k + 1 := ⟨q - 1, by omega⟩
    refine ⟨c, f, K, ht, ?_⟩
    rw [iterO, tableSet_s0]
    simp only [dlen_l, ilt_nat, decide_eq_false (show ¬ i < puts.length by omega)]
  | succ m ih =>
    intro i q c f K hk hi hq ht
    obtain ⟨q, rfl⟩ : ∃ k, q = k + 1 := ⟨q - 1, by omega⟩
    have hi' : i < puts.length := by omega
    have hlf := ht.lf
    have hlc := ht.lc
    have hsm := ht.small
    rw [iterO, tableSet_s0]
    simp (disch := omega) only [dlen_l, ilt_nat, hi', decide_true, wrap_add1, sub1, put_val (n : Int) c f _ (show f.length < 1073741824 by omega) (show [puts.getD i 0].length < 1073741824 by simp)]
    rcases ht.put [puts.getD i 0] with ⟨c', f', ht', e⟩ | e
    · rw [e]
      simp only [ieq_self]
      exact ih (i + 1) q c' f' _ (by omega) (by omega) (by omega) ht'
    · rw [e]
      have z : ieq (2 : Int) 0 = false := by rw [ieq_eq]; rfl
      simp only [z, ieq_self, Bool.not_true, same12_self ((n : Int), c, f, ()) (by simp; omega) (by simp; omega)]
      exact ih (i + 1) q c f K (by omega) (by omega) (by omega) ht

/-- the drops, one by one -/
theorem set_drops {n : Nat} (drops all wc : List Int) (wb : Int) (wf : List Bool) (hp : drops.length ≤ 30) (K : List Int) : ∀ (m i q : Nat) (c : List Int) (f : List Bool), drops.length - i = m → i ≤ drops.length → m < q → Tb n c f (without K (drops.take i)) →
    ∃ c' f', Tb n c' f' (without K drops) ∧ iterO tableSet_s1 q (drops, (n : Int), c, f, all, wb, wc, wf, (i : Int), ()) = some (.inr (.inl (drops, (n : Int), c', f', all, wb, wc, wf, ()))) := by
  intro m
  induction m with
  | zero =>
    intro i q c f hk hi hq ht
    obtain ⟨q, rfl⟩ : ∃ k, q = k + 1 := ⟨q - 1, by omega⟩
    rw [List.take_of_length_le (by omega)] at ht
    refine ⟨c, f, ht, ?_⟩
    rw [iterO, tableSet_s1]
    simp only [dlen_l, ilt_nat, decide_eq_false (show ¬ i < drops.length by omega)]
  | succ m ih =>
    intro i q c f hk hi hq ht
    obtain ⟨q, rfl⟩ : ∃ k, q = k + 1 := ⟨q - 1, by omega⟩
    have hi' : i < drops.length := by omega
    have hlf := ht.lf
    have hlc := ht.lc
    have hsm := ht.small
    rw [iterO, tableSet_s1]
    simp (disch := omega) only [dlen_l, ilt_nat, hi', decide_true, wrap_add1, sub1, drop_val (n : Int) c f _ (show f.length < 1073741824 by omega) (show [drops.getD i 0].length < 1073741824 by simp)]
    obtain ⟨c', f', ht', e⟩ := ht.drop [drops.getD i 0]
    rw [e]
    rw [← without_snoc, ← take_succ_getD hi'] at ht'
    simp only [ieq_self, Bool.not_true]
    exact ih (i + 1) q c' f' (by omega) (by omega) (by omega) ht'

theorem tableSet_true (b : Int) (puts drops : List Int) (h0 : wfD (.int .u8) b) (h1 : wfD (.slice (.int .u32)) puts) (h2 : wfD (.slice (.int .u32)) drops) : tableSet (b, puts, drops, ()) = some (true, ()) := by
  have hb : 0 ≤ b ∧ b ≤ 255 := h0
  have hmany : 4294967296 < many := by simp only [many]; omega
  rw [tableSet_eq, tableSet_d]
  simp only [alive12_true, Bool.not_true, dlen_l]
  by_cases hl : 30 < puts.length
  · rw [ilt_true (by omega)]
  · rw [ilt_false (by omega)]
    by_cases hl2 : 30 < drops.length
    · rw [ilt_true (by omega)]
    · rw [ilt_false (by omega)]
      obtain ⟨n, hn⟩ : ∃ n : Nat, 1 + b % 6 = (n : Int) := ⟨(1 + b % 6).toNat, by omega⟩
      have hr : rem? (IntKind.wrap .i64 b) 6 = some (b % 6) := by
        rw [wrap_in (by omega), rem_eq, remR, if_neg (by omega), Int.tmod_eq_emod_of_nonneg (by omega)]
      have hw : IntKind.wrap .i64 ((1 : Int) + b % 6) = (n : Int) := by rw [wrap_in (by omega), hn]
      have n1 : 1 ≤ n := by omega
      have n10 : n ≤ 10 := by omega
      have ht := Tb.mk' (n := n) (K := []) n1 n10 List.Pairwise.nil (by simp)
      have hm0 := make_val (n : Int) [] (by simp)
      rw [ht.out] at hm0
      simp only [hr, hw, hm0, ieq_self, Bool.not_true, iterL_eq]
      obtain ⟨c, f, K, ht1, e1⟩ := set_puts puts drops (by omega) puts.length 0 many _ _ [] (by omega) (by omega) (by omega) ht
      have e1' : iterO tableSet_s0 many (puts, drops, (n : Int), (n : Int), (tab n []).1, (tab n []).2, (0 : Int), ()) = _ := e1
      have hlf := ht1.lf
      have hlc := ht1.lc
      have hsm := ht1.small
      have hKl : K.length ≤ 1024 := by have := ht1.few; omega
      have hm1 := make_val (n : Int) K (by omega)
      rw [ht1.out] at hm1
      simp only [e1', keys_val (n : Int) c f (by omega), ht1.keys, hm1, ieq_self, Bool.not_true, same12_self ((n : Int), c, f, ()) (by simp; omega) (by simp; omega)]
      obtain ⟨c2, f2, ht2, e2⟩ := set_drops (n := n) drops K c (n : Int) f (by omega) K drops.length 0 many c f (by omega) (by omega) (by omega) (by rw [List.take_zero, without_nil]; exact ht1)
      have e2' : iterO tableSet_s1 many (drops, (n : Int), c, f, K, (n : Int), c, f, (0 : Int), ()) = _ := e2
      obtain ⟨c3, f3, ht3, e3⟩ := ht1.drop drops
      obtain ⟨rfl, rfl⟩ := ht2.same ht3
      have hlf2 := ht2.lf
      have hlc2 := ht2.lc
      have h0' : 0 < 2 ^ n := Nat.two_pow_pos n
      have hwl : (without K drops).length ≤ K.length := List.length_filter_le _ _
      simp only [e2', drop_val (n : Int) c f drops (by omega) (by omega), e3, without11_val K drops (by omega) (by omega), ieq_self, Bool.not_true, same12_self ((n : Int), c3, f3, ()) (by simp; omega) (by simp; omega),
        keys_val (n : Int) c3 f3 (by omega), ht2.keys, words07_val (without K drops) (without K drops) (by omega), decide_true]
      rcases scanL (step := tableSet_s2) (fun i => ((n : Int), c3, f3, K, without K drops, (i : Int), ())) K.length (fun _ => false) (fun _ => .inl (false, ())) (.inr (.inl ())) (by omega)
        (fun i hi => by
          obtain ⟨q1, q2, q3⟩ := ht2.stops (K.getD i 0)
          have hlt := spot_lt n c3 f3 (K.getD i 0)
          rw [tableSet_s2]
          simp only [dlen_l, ilt_nat, hi, decide_true, idx_l (0 : Int) hi, dget_l, find_val (n : Int) c3 f3 _ (show f3.length < 2147483648 by omega), ht2.find, has11_val (without K drops) _ (show (without K drops).length < 4294967296 by omega)]
          by_cases hk : K.getD i 0 ∈ without K drops
          · have hcell := ht2.cell hk
            simp (disch := omega) only [if_pos hk, decide_eq_true hk, BEq.rfl, Bool.not_true, ilt_false, ile_false, idx_l (0 : Int), hcell, ieq_self, wrap_add1]
            rfl
          · simp (disch := omega) only [if_neg hk, decide_eq_false hk, BEq.rfl, Bool.not_true, ilt_false, wrap_add1]
            rfl) (by rw [tableSet_s2]; simp only [dlen_l, ilt_nat, Nat.lt_irrefl, decide_false]) with ⟨k, _, hP, _⟩ | ⟨_, e⟩
      · cases hP
      · have e' : iterL tableSet_s2 many ((n : Int), c3, f3, K, without K drops, (0 : Int), ()) = _ := e
        rw [iterL_eq] at e'
        simp only [e']
end Go.Pev.Pl
end
section
/- The models are what the program computes. Printed by a program. -/
namespace Go.Pev
open Go.Proofs
set_option maxRecDepth 100000
noncomputable section
-- archipelago/archipelagoref12.Great
abbrev great12_h : Hints := {  }
theorem great12_okd : ∀ v, great12_d v = pevCall Try.prog Env.none great12_h Try.f12 great12_i great12_o great12_r v := by
  rintro ⟨a0, ⟨⟩⟩
  kernel_rfl
theorem great12_q : loopList (bodyOf Try.f12) 0 = [] := by kernel_rfl
theorem great12_b : Try.f12.body.isSome = true := by kernel_rfl
theorem great12_n : (Try.f12.name == "runtime.NumGoroutine") = false := by kernel_rfl
theorem great12_ok (v : denL (leaves great12_i)) : great12 v = pevCall Try.prog Env.none great12_h Try.f12 great12_i great12_o great12_r v := (great12_eq v).trans (great12_okd v)
theorem great12_spec : SpecOK Try.prog 12 (mkCall 1 great12_i great12_o great12_r great12) := call_spec Env.none_ok Try.func12 great12_b great12_n rfl great12_ok (LoopsOK_of great12_q trivial)
def E_great12 : Env := Env.none.ext 12 true true (mkCall 1 great12_i great12_o great12_r great12)
theorem E_great12_ok : EnvOK Try.prog E_great12 := Env.ext_ok Env.none_ok great12_spec (fun _ => mkCall_local rfl rfl) (fun _ => mkCall_in rfl rfl)

-- archipelago/table.sized
abbrev sized_h : Hints := {  }
theorem sized_okd : ∀ v, sized_d v = pevCall Try.prog E_great12 sized_h Try.f58 sized_i sized_o sized_r v := by
  rintro ⟨a0, ⟨⟩⟩
  kernel_rfl
theorem sized_q : loopList (bodyOf Try.f58) 0 = [] := by kernel_rfl
theorem sized_b : Try.f58.body.isSome = true := by kernel_rfl
theorem sized_n : (Try.f58.name == "runtime.NumGoroutine") = false := by kernel_rfl
theorem sized_ok (v : denL (leaves sized_i)) : sized v = pevCall Try.prog E_great12 sized_h Try.f58 sized_i sized_o sized_r v := (sized_eq v).trans (sized_okd v)
theorem sized_spec : SpecOK Try.prog 58 (mkCall 1 sized_i sized_o sized_r sized) := call_spec E_great12_ok Try.func58 sized_b sized_n rfl sized_ok (LoopsOK_of sized_q trivial)
def E_sized : Env := E_great12.ext 58 true true (mkCall 1 sized_i sized_o sized_r sized)
theorem E_sized_ok : EnvOK Try.prog E_sized := Env.ext_ok E_great12_ok sized_spec (fun _ => mkCall_local rfl rfl) (fun _ => mkCall_in rfl rfl)

-- archipelago/table.Home
abbrev home_h : Hints := {  }
theorem home_okd : ∀ v, home_d v = pevCall Try.prog E_sized home_h Try.f21 home_i home_o home_r v := by
  rintro ⟨a0, a1, ⟨⟩⟩
  kernel_rfl
theorem home_q : loopList (bodyOf Try.f21) 0 = [] := by kernel_rfl
theorem home_b : Try.f21.body.isSome = true := by kernel_rfl
theorem home_n : (Try.f21.name == "runtime.NumGoroutine") = false := by kernel_rfl
theorem home_ok (v : denL (leaves home_i)) : home v = pevCall Try.prog E_sized home_h Try.f21 home_i home_o home_r v := (home_eq v).trans (home_okd v)
theorem home_spec : SpecOK Try.prog 21 (mkCall 2 home_i home_o home_r home) := call_spec E_sized_ok Try.func21 home_b home_n rfl home_ok (LoopsOK_of home_q trivial)
def E_home : Env := E_sized.ext 21 true true (mkCall 2 home_i home_o home_r home)
theorem E_home_ok : EnvOK Try.prog E_home := Env.ext_ok E_sized_ok home_spec (fun _ => mkCall_local rfl rfl) (fun _ => mkCall_in rfl rfl)

-- archipelago/archipelagoref12.Home
abbrev home12_h : Hints := { loop := fun n => match n with | 0 => loopBy 0 27 home12_i0 home12_o0 home12_s0 | _ => fun _ _ _ => none }
theorem home12_s0_ok : ∀ v, home12_s0 v = roundOf Try.prog E_home home12_h 1 0 27 (loopOf Try.f22 0) home12_i0 home12_o0 v := by
  rintro ⟨a0, a1, a2, ⟨⟩⟩
  kernel_rfl
theorem home12_q0 : loopList (loopOf Try.f22 0) 1 = [] := by kernel_rfl
theorem home12_l0 : CodeOK Try.prog 0 (.loop (loopOf Try.f22 0)) (home12_h.loop 0) := loop_ok E_home_ok (home12_s0_ok) (LoopsOK_of home12_q0 trivial)
theorem home12_okd : ∀ v, home12_d v = pevCall Try.prog E_home home12_h Try.f22 home12_i home12_o home12_r v := by
  rintro ⟨a0, a1, ⟨⟩⟩
  kernel_rfl
theorem home12_q : loopList (bodyOf Try.f22) 0 = [(0, loopOf Try.f22 0)] := by kernel_rfl
theorem home12_b : Try.f22.body.isSome = true := by kernel_rfl
theorem home12_n : (Try.f22.name == "runtime.NumGoroutine") = false := by kernel_rfl
theorem home12_ok (v : denL (leaves home12_i)) : home12 v = pevCall Try.prog E_home home12_h Try.f22 home12_i home12_o home12_r v := (home12_eq v).trans (home12_okd v)
theorem home12_spec : SpecOK Try.prog 22 (mkCall 2 home12_i home12_o home12_r home12) := call_spec E_home_ok Try.func22 home12_b home12_n rfl home12_ok (LoopsOK_of home12_q ⟨home12_l0, trivial⟩)
def E_home12 : Env := E_home.ext 22 true true (mkCall 2 home12_i home12_o home12_r home12)
theorem E_home12_ok : EnvOK Try.prog E_home12 := Env.ext_ok E_home_ok home12_spec (fun _ => mkCall_local rfl rfl) (fun _ => mkCall_in rfl rfl)

-- archipelago/table.probe
abbrev probe_h : Hints := { loop := fun n => match n with | 0 => loopBy 0 37 probe_i0 probe_o0 probe_s0 | _ => fun _ _ _ => none }
theorem probe_s0_ok : ∀ v, probe_s0 v = roundOf Try.prog E_home12 probe_h 1 0 37 (loopOf Try.f60 0) probe_i0 probe_o0 v := by
  rintro ⟨a0, a1, a2, a3, a4, a5, a6, ⟨⟩⟩
  kernel_rfl
theorem probe_q0 : loopList (loopOf Try.f60 0) 1 = [] := by kernel_rfl
theorem probe_l0 : CodeOK Try.prog 0 (.loop (loopOf Try.f60 0)) (probe_h.loop 0) := loop_ok E_home12_ok (probe_s0_ok) (LoopsOK_of probe_q0 trivial)
theorem probe_okd : ∀ v, probe_d v = pevCall Try.prog E_home12 probe_h Try.f60 probe_i probe_o probe_r v := by
  rintro ⟨a0, a1, ⟨⟩⟩
  kernel_rfl
theorem probe_q : loopList (bodyOf Try.f60) 0 = [(0, loopOf Try.f60 0)] := by kernel_rfl
theorem probe_b : Try.f60.body.isSome = true := by kernel_rfl
theorem probe_n : (Try.f60.name == "runtime.NumGoroutine") = false := by kernel_rfl
theorem probe_ok (v : denL (leaves probe_i)) : probe v = pevCall Try.prog E_home12 probe_h Try.f60 probe_i probe_o probe_r v := (probe_eq v).trans (probe_okd v)
theorem probe_spec : SpecOK Try.prog 60 (mkCall 2 probe_i probe_o probe_r probe) := call_spec E_home12_ok Try.func60 probe_b probe_n rfl probe_ok (LoopsOK_of probe_q ⟨probe_l0, trivial⟩)
def E_probe : Env := E_home12.ext 60 true true (mkCall 2 probe_i probe_o probe_r probe)
theorem E_probe_ok : EnvOK Try.prog E_probe := Env.ext_ok E_home12_ok probe_spec (fun _ => mkCall_local rfl rfl) (fun _ => mkCall_in rfl rfl)

-- 88 cloneW: slices.Clone
theorem cloneW_n : (Try.f88.name == "runtime.NumGoroutine") = false := by kernel_rfl
theorem cloneW_shape : CloneShape Try.prog Try.f88 22 34 (.int .u32) where
  body := by kernel_rfl
  nt := by kernel_rfl
  res := by kernel_rfl
  d := ⟨by kernel_rfl, by kernel_rfl, by kernel_rfl, by kernel_rfl, by kernel_rfl, by kernel_rfl, by kernel_rfl, by kernel_rfl⟩
  g := ⟨by kernel_rfl, by kernel_rfl, by kernel_rfl, by kernel_rfl, by kernel_rfl, by kernel_rfl, by kernel_rfl, by kernel_rfl⟩
  o00 := by kernel_rfl
  o10 := by kernel_rfl
  o11 := by kernel_rfl
  o20 := by kernel_rfl
  o30 := by kernel_rfl
  o31 := by kernel_rfl
  o32 := by kernel_rfl
  o33 := by kernel_rfl
  sl := by kernel_rfl
  z := by kernel_rfl
  by1 := by kernel_rfl
def E_cloneW : Env := E_probe.ext 88 true true (cloneSpec 34 (.int .u32))
theorem E_cloneW_ok : EnvOK Try.prog E_cloneW := Env.ext_ok E_probe_ok (clone_ok cloneW_shape Try.func88 cloneW_n) (fun _ => cloneSpec_local _ _) (fun _ => (cloneSpec_local _ _).toIn)

-- slices.Compact[[]uint32,uint32]
abbrev compactW_h : Hints := { loop := fun n => match n with | 0 => loopBy 1 61 compactW_i0 compactW_o0 compactW_s0 | 1 => loopBy 1 61 compactW_i1 compactW_o1 compactW_s1 | _ => fun _ _ _ => none, fp := fun n => match n with | 6 => [[], [], [0], [0], [], [], [], [0], [0], []] | 11 => [[], [], [0], [0], [], [], [], [0], [0], []] | _ => [] }
theorem compactW_s1_ok : ∀ v, compactW_s1 v = roundOf Try.prog E_cloneW compactW_h 2 1 61 (loopOf Try.f90 1) compactW_i1 compactW_o1 v := by
  rintro ⟨a0, a1, a2, a3, a4, ⟨⟩⟩
  kernel_rfl
theorem compactW_q1 : loopList (loopOf Try.f90 1) 2 = [] := by kernel_rfl
theorem compactW_l1 : CodeOK Try.prog 1 (.loop (loopOf Try.f90 1)) (compactW_h.loop 1) := loop_ok E_cloneW_ok (compactW_s1_ok) (LoopsOK_of compactW_q1 trivial)
theorem compactW_s0_ok : ∀ v, compactW_s0 v = roundOf Try.prog E_cloneW compactW_h 1 1 61 (loopOf Try.f90 0) compactW_i0 compactW_o0 v := by
  rintro ⟨a0, a1, ⟨⟩⟩
  kernel_rfl
theorem compactW_q0 : loopList (loopOf Try.f90 0) 1 = [(1, loopOf Try.f90 1)] := by kernel_rfl
theorem compactW_l0 : CodeOK Try.prog 1 (.loop (loopOf Try.f90 0)) (compactW_h.loop 0) := loop_ok E_cloneW_ok (compactW_s0_ok) (LoopsOK_of compactW_q0 ⟨compactW_l1, trivial⟩)
theorem compactW_okd : ∀ v, compactW_d v = pevCall Try.prog E_cloneW compactW_h Try.f90 compactW_i compactW_o compactW_r v := by
  rintro ⟨a0, ⟨⟩⟩
  kernel_rfl
theorem compactW_q : loopList (bodyOf Try.f90) 0 = [(0, loopOf Try.f90 0)] := by kernel_rfl
theorem compactW_b : Try.f90.body.isSome = true := by kernel_rfl
theorem compactW_n : (Try.f90.name == "runtime.NumGoroutine") = false := by kernel_rfl
theorem compactW_ok (v : denL (leaves compactW_i)) : compactW v = pevCall Try.prog E_cloneW compactW_h Try.f90 compactW_i compactW_o compactW_r v := (compactW_eq v).trans (compactW_okd v)
theorem compactW_spec : SpecOK Try.prog 90 (mkCall 1 compactW_i compactW_o compactW_r compactW) := call_spec E_cloneW_ok Try.func90 compactW_b compactW_n rfl compactW_ok (LoopsOK_of compactW_q ⟨compactW_l0, trivial⟩)
def E_compactW : Env := E_cloneW.ext 90 false true (takeBack (mkCall 1 compactW_i compactW_o compactW_r compactW))
theorem E_compactW_ok : EnvOK Try.prog E_compactW := Env.ext_ok E_cloneW_ok (takeBack_ok compactW_spec) ((by simp)) (fun _ => take_in rfl rfl)

-- slices.Equal[[]uint32,uint32]
abbrev equalW_h : Hints := { loop := fun n => match n with | 0 => loopBy 0 26 equalW_i0 equalW_o0 equalW_s0 | _ => fun _ _ _ => none, fp := fun n => match n with | 6 => [[], [], [], [], [], [], [], [], []] | _ => [] }
theorem equalW_s0_ok : ∀ v, equalW_s0 v = roundOf Try.prog E_compactW equalW_h 1 0 26 (loopOf Try.f62 0) equalW_i0 equalW_o0 v := by
  rintro ⟨a0, a1, a2, a3, ⟨⟩⟩
  kernel_rfl
theorem equalW_q0 : loopList (loopOf Try.f62 0) 1 = [] := by kernel_rfl
theorem equalW_l0 : CodeOK Try.prog 0 (.loop (loopOf Try.f62 0)) (equalW_h.loop 0) := loop_ok E_compactW_ok (equalW_s0_ok) (LoopsOK_of equalW_q0 trivial)
theorem equalW_okd : ∀ v, equalW_d v = pevCall Try.prog E_compactW equalW_h Try.f62 equalW_i equalW_o equalW_r v := by
  rintro ⟨a0, a1, ⟨⟩⟩
  kernel_rfl
theorem equalW_q : loopList (bodyOf Try.f62) 0 = [(0, loopOf Try.f62 0)] := by kernel_rfl
theorem equalW_b : Try.f62.body.isSome = true := by kernel_rfl
theorem equalW_n : (Try.f62.name == "runtime.NumGoroutine") = false := by kernel_rfl
theorem equalW_ok (v : denL (leaves equalW_i)) : equalW v = pevCall Try.prog E_compactW equalW_h Try.f62 equalW_i equalW_o equalW_r v := (equalW_eq v).trans (equalW_okd v)
theorem equalW_spec : SpecOK Try.prog 62 (mkCall 2 equalW_i equalW_o equalW_r equalW) := call_spec E_compactW_ok Try.func62 equalW_b equalW_n rfl equalW_ok (LoopsOK_of equalW_q ⟨equalW_l0, trivial⟩)
def E_equalW : Env := E_compactW.ext 62 true true (mkCall 2 equalW_i equalW_o equalW_r equalW)
theorem E_equalW_ok : EnvOK Try.prog E_equalW := Env.ext_ok E_compactW_ok equalW_spec (fun _ => mkCall_local rfl rfl) (fun _ => mkCall_in rfl rfl)

-- slices.Equal[[]bool,bool]
abbrev equalB_h : Hints := { loop := fun n => match n with | 0 => loopBy 0 26 equalB_i0 equalB_o0 equalB_s0 | _ => fun _ _ _ => none, fp := fun n => match n with | 6 => [[], [], [], [], [], [], [], [], []] | _ => [] }
theorem equalB_s0_ok : ∀ v, equalB_s0 v = roundOf Try.prog E_equalW equalB_h 1 0 26 (loopOf Try.f63 0) equalB_i0 equalB_o0 v := by
  rintro ⟨a0, a1, a2, a3, ⟨⟩⟩
  kernel_rfl
theorem equalB_q0 : loopList (loopOf Try.f63 0) 1 = [] := by kernel_rfl
theorem equalB_l0 : CodeOK Try.prog 0 (.loop (loopOf Try.f63 0)) (equalB_h.loop 0) := loop_ok E_equalW_ok (equalB_s0_ok) (LoopsOK_of equalB_q0 trivial)
theorem equalB_okd : ∀ v, equalB_d v = pevCall Try.prog E_equalW equalB_h Try.f63 equalB_i equalB_o equalB_r v := by
  rintro ⟨a0, a1, ⟨⟩⟩
  kernel_rfl
theorem equalB_q : loopList (bodyOf Try.f63) 0 = [(0, loopOf Try.f63 0)] := by kernel_rfl
theorem equalB_b : Try.f63.body.isSome = true := by kernel_rfl
theorem equalB_n : (Try.f63.name == "runtime.NumGoroutine") = false := by kernel_rfl
theorem equalB_ok (v : denL (leaves equalB_i)) : equalB v = pevCall Try.prog E_equalW equalB_h Try.f63 equalB_i equalB_o equalB_r v := (equalB_eq v).trans (equalB_okd v)
theorem equalB_spec : SpecOK Try.prog 63 (mkCall 2 equalB_i equalB_o equalB_r equalB) := call_spec E_equalW_ok Try.func63 equalB_b equalB_n rfl equalB_ok (LoopsOK_of equalB_q ⟨equalB_l0, trivial⟩)
def E_equalB : Env := E_equalW.ext 63 true true (mkCall 2 equalB_i equalB_o equalB_r equalB)
theorem E_equalB_ok : EnvOK Try.prog E_equalB := Env.ext_ok E_equalW_ok equalB_spec (fun _ => mkCall_local rfl rfl) (fun _ => mkCall_in rfl rfl)

-- slices.Index[[]uint32,uint32]
abbrev indexW_h : Hints := { loop := fun n => match n with | 0 => loopBy 0 19 indexW_i0 indexW_o0 indexW_s0 | _ => fun _ _ _ => none }
theorem indexW_s0_ok : ∀ v, indexW_s0 v = roundOf Try.prog E_equalB indexW_h 1 0 19 (loopOf Try.f87 0) indexW_i0 indexW_o0 v := by
  rintro ⟨a0, a1, a2, a3, ⟨⟩⟩
  kernel_rfl
theorem indexW_q0 : loopList (loopOf Try.f87 0) 1 = [] := by kernel_rfl
theorem indexW_l0 : CodeOK Try.prog 0 (.loop (loopOf Try.f87 0)) (indexW_h.loop 0) := loop_ok E_equalB_ok (indexW_s0_ok) (LoopsOK_of indexW_q0 trivial)
theorem indexW_okd : ∀ v, indexW_d v = pevCall Try.prog E_equalB indexW_h Try.f87 indexW_i indexW_o indexW_r v := by
  rintro ⟨a0, a1, ⟨⟩⟩
  kernel_rfl
theorem indexW_q : loopList (bodyOf Try.f87) 0 = [(0, loopOf Try.f87 0)] := by kernel_rfl
theorem indexW_b : Try.f87.body.isSome = true := by kernel_rfl
theorem indexW_n : (Try.f87.name == "runtime.NumGoroutine") = false := by kernel_rfl
theorem indexW_ok (v : denL (leaves indexW_i)) : indexW v = pevCall Try.prog E_equalB indexW_h Try.f87 indexW_i indexW_o indexW_r v := (indexW_eq v).trans (indexW_okd v)
theorem indexW_spec : SpecOK Try.prog 87 (mkCall 2 indexW_i indexW_o indexW_r indexW) := call_spec E_equalB_ok Try.func87 indexW_b indexW_n rfl indexW_ok (LoopsOK_of indexW_q ⟨indexW_l0, trivial⟩)
def E_indexW : Env := E_equalB.ext 87 true true (mkCall 2 indexW_i indexW_o indexW_r indexW)
theorem E_indexW_ok : EnvOK Try.prog E_indexW := Env.ext_ok E_equalB_ok indexW_spec (fun _ => mkCall_local rfl rfl) (fun _ => mkCall_in rfl rfl)

-- slices.Contains[[]uint32,uint32]
abbrev containsW_h : Hints := {  }
theorem containsW_okd : ∀ v, containsW_d v = pevCall Try.prog E_indexW containsW_h Try.f57 containsW_i containsW_o containsW_r v := by
  rintro ⟨a0, a1, ⟨⟩⟩
  kernel_rfl
theorem containsW_q : loopList (bodyOf Try.f57) 0 = [] := by kernel_rfl
theorem containsW_b : Try.f57.body.isSome = true := by kernel_rfl
theorem containsW_n : (Try.f57.name == "runtime.NumGoroutine") = false := by kernel_rfl
theorem containsW_ok (v : denL (leaves containsW_i)) : containsW v = pevCall Try.prog E_indexW containsW_h Try.f57 containsW_i containsW_o containsW_r v := (containsW_eq v).trans (containsW_okd v)
theorem containsW_spec : SpecOK Try.prog 57 (mkCall 2 containsW_i containsW_o containsW_r containsW) := call_spec E_indexW_ok Try.func57 containsW_b containsW_n rfl containsW_ok (LoopsOK_of containsW_q trivial)
def E_containsW : Env := E_indexW.ext 57 true true (mkCall 2 containsW_i containsW_o containsW_r containsW)
theorem E_containsW_ok : EnvOK Try.prog E_containsW := Env.ext_ok E_indexW_ok containsW_spec (fun _ => mkCall_local rfl rfl) (fun _ => mkCall_in rfl rfl)

-- slices.Grow[[]uint32,uint32]
abbrev growW_h : Hints := {  }
theorem growW_okd : ∀ v, growW_d v = pevCall Try.prog E_containsW growW_h Try.f85 growW_i growW_o growW_r v := by
  rintro ⟨a0, ⟨⟩⟩
  kernel_rfl
theorem growW_q : loopList (bodyOf Try.f85) 0 = [] := by kernel_rfl
theorem growW_b : Try.f85.body.isSome = true := by kernel_rfl
theorem growW_n : (Try.f85.name == "runtime.NumGoroutine") = false := by kernel_rfl
theorem growW_ok (v : denL (leaves growW_i)) : growW v = pevCall Try.prog E_containsW growW_h Try.f85 growW_i growW_o growW_r v := (growW_eq v).trans (growW_okd v)
theorem growW_spec : SpecOK Try.prog 85 (mkCall 2 growW_i growW_o growW_r growW) := call_spec E_containsW_ok Try.func85 growW_b growW_n rfl growW_ok (LoopsOK_of growW_q trivial)
def E_growW : Env := E_containsW.ext 85 false true (mkCall 2 growW_i growW_o growW_r growW)
theorem E_growW_ok : EnvOK Try.prog E_growW := Env.ext_ok E_containsW_ok growW_spec ((by simp)) (fun _ => mkCall_in rfl rfl)

end
end Go.Pev
end
section
/- The models are what the program computes. Printed by a program. -/
namespace Go.Pev
open Go.Proofs
set_option maxRecDepth 100000
noncomputable section
-- slices.Concat[[]uint32,uint32]
abbrev concatW_h : Hints := { loop := fun n => match n with | 0 => loopBy 0 36 concatW_i0 concatW_o0 concatW_s0 | 1 => loopBy 0 36 concatW_i1 concatW_o1 concatW_s1 | _ => fun _ _ _ => none }
theorem concatW_s1_ok : ∀ v, concatW_s1 v = roundOf Try.prog E_growW concatW_h 2 0 36 (loopOf Try.f53 1) concatW_i1 concatW_o1 v := by
  rintro ⟨a0, a1, a2, a3, ⟨⟩⟩
  kernel_rfl
theorem concatW_q1 : loopList (loopOf Try.f53 1) 2 = [] := by kernel_rfl
theorem concatW_l1 : CodeOK Try.prog 0 (.loop (loopOf Try.f53 1)) (concatW_h.loop 1) := loop_ok E_growW_ok (concatW_s1_ok) (LoopsOK_of concatW_q1 trivial)
theorem concatW_s0_ok : ∀ v, concatW_s0 v = roundOf Try.prog E_growW concatW_h 1 0 36 (loopOf Try.f53 0) concatW_i0 concatW_o0 v := by
  rintro ⟨a0, a1, a2, a3, a4, ⟨⟩⟩
  kernel_rfl
theorem concatW_q0 : loopList (loopOf Try.f53 0) 1 = [] := by kernel_rfl
theorem concatW_l0 : CodeOK Try.prog 0 (.loop (loopOf Try.f53 0)) (concatW_h.loop 0) := loop_ok E_growW_ok (concatW_s0_ok) (LoopsOK_of concatW_q0 trivial)
theorem concatW_okd : ∀ v, concatW_d v = pevCall Try.prog E_growW concatW_h Try.f53 concatW_i concatW_o concatW_r v := by
  rintro ⟨a0, ⟨⟩⟩
  kernel_rfl
theorem concatW_q : loopList (bodyOf Try.f53) 0 = [(0, loopOf Try.f53 0), (1, loopOf Try.f53 1)] := by kernel_rfl
theorem concatW_b : Try.f53.body.isSome = true := by kernel_rfl
theorem concatW_n : (Try.f53.name == "runtime.NumGoroutine") = false := by kernel_rfl
theorem concatW_ok (v : denL (leaves concatW_i)) : concatW v = pevCall Try.prog E_growW concatW_h Try.f53 concatW_i concatW_o concatW_r v := (concatW_eq v).trans (concatW_okd v)
theorem concatW_spec : SpecOK Try.prog 53 (mkCall 1 concatW_i concatW_o concatW_r concatW) := call_spec E_growW_ok Try.func53 concatW_b concatW_n rfl concatW_ok (LoopsOK_of concatW_q ⟨concatW_l0, concatW_l1, trivial⟩)
def E_concatW : Env := E_growW.ext 53 true true (mkCall 1 concatW_i concatW_o concatW_r concatW)
theorem E_concatW_ok : EnvOK Try.prog E_concatW := Env.ext_ok E_growW_ok concatW_spec (fun _ => mkCall_local rfl rfl) (fun _ => mkCall_in rfl rfl)

-- cmp.isNaN[uint32]
abbrev nanW_h : Hints := {  }
theorem nanW_okd : ∀ v, nanW_d v = pevCall Try.prog E_concatW nanW_h Try.f135 nanW_i nanW_o nanW_r v := by
  rintro ⟨a0, ⟨⟩⟩
  kernel_rfl
theorem nanW_q : loopList (bodyOf Try.f135) 0 = [] := by kernel_rfl
theorem nanW_b : Try.f135.body.isSome = true := by kernel_rfl
theorem nanW_n : (Try.f135.name == "runtime.NumGoroutine") = false := by kernel_rfl
theorem nanW_ok (v : denL (leaves nanW_i)) : nanW v = pevCall Try.prog E_concatW nanW_h Try.f135 nanW_i nanW_o nanW_r v := (nanW_eq v).trans (nanW_okd v)
theorem nanW_spec : SpecOK Try.prog 135 (mkCall 1 nanW_i nanW_o nanW_r nanW) := call_spec E_concatW_ok Try.func135 nanW_b nanW_n rfl nanW_ok (LoopsOK_of nanW_q trivial)
def E_nanW : Env := E_concatW.ext 135 true true (mkCall 1 nanW_i nanW_o nanW_r nanW)
theorem E_nanW_ok : EnvOK Try.prog E_nanW := Env.ext_ok E_concatW_ok nanW_spec (fun _ => mkCall_local rfl rfl) (fun _ => mkCall_in rfl rfl)

-- cmp.Less[uint32]
abbrev lessW_h : Hints := {  }
theorem lessW_okd : ∀ v, lessW_d v = pevCall Try.prog E_nanW lessW_h Try.f117 lessW_i lessW_o lessW_r v := by
  rintro ⟨a0, a1, ⟨⟩⟩
  kernel_rfl
theorem lessW_q : loopList (bodyOf Try.f117) 0 = [] := by kernel_rfl
theorem lessW_b : Try.f117.body.isSome = true := by kernel_rfl
theorem lessW_n : (Try.f117.name == "runtime.NumGoroutine") = false := by kernel_rfl
theorem lessW_ok (v : denL (leaves lessW_i)) : lessW v = pevCall Try.prog E_nanW lessW_h Try.f117 lessW_i lessW_o lessW_r v := (lessW_eq v).trans (lessW_okd v)
theorem lessW_spec : SpecOK Try.prog 117 (mkCall 2 lessW_i lessW_o lessW_r lessW) := call_spec E_nanW_ok Try.func117 lessW_b lessW_n rfl lessW_ok (LoopsOK_of lessW_q trivial)
def E_lessW : Env := E_nanW.ext 117 true true (mkCall 2 lessW_i lessW_o lessW_r lessW)
theorem E_lessW_ok : EnvOK Try.prog E_lessW := Env.ext_ok E_nanW_ok lessW_spec (fun _ => mkCall_local rfl rfl) (fun _ => mkCall_in rfl rfl)

-- math/bits.Len64
abbrev len64_h : Hints := {  }
theorem len64_okd : ∀ v, len64_d v = pevCall Try.prog E_lessW len64_h Try.f121 len64_i len64_o len64_r v := by
  rintro ⟨a0, ⟨⟩⟩
  kernel_rfl
theorem len64_q : loopList (bodyOf Try.f121) 0 = [] := by kernel_rfl
theorem len64_b : Try.f121.body.isSome = true := by kernel_rfl
theorem len64_n : (Try.f121.name == "runtime.NumGoroutine") = false := by kernel_rfl
theorem len64_ok (v : denL (leaves len64_i)) : len64 v = pevCall Try.prog E_lessW len64_h Try.f121 len64_i len64_o len64_r v := (len64_eq v).trans (len64_okd v)
theorem len64_spec : SpecOK Try.prog 121 (mkCall 1 len64_i len64_o len64_r len64) := call_spec E_lessW_ok Try.func121 len64_b len64_n rfl len64_ok (LoopsOK_of len64_q trivial)
def E_len64 : Env := E_lessW.ext 121 true true (mkCall 1 len64_i len64_o len64_r len64)
theorem E_len64_ok : EnvOK Try.prog E_len64 := Env.ext_ok E_lessW_ok len64_spec (fun _ => mkCall_local rfl rfl) (fun _ => mkCall_in rfl rfl)

-- math/bits.Len
abbrev bitsLen_h : Hints := {  }
theorem bitsLen_okd : ∀ v, bitsLen_d v = pevCall Try.prog E_len64 bitsLen_h Try.f107 bitsLen_i bitsLen_o bitsLen_r v := by
  rintro ⟨a0, ⟨⟩⟩
  kernel_rfl
theorem bitsLen_q : loopList (bodyOf Try.f107) 0 = [] := by kernel_rfl
theorem bitsLen_b : Try.f107.body.isSome = true := by kernel_rfl
theorem bitsLen_n : (Try.f107.name == "runtime.NumGoroutine") = false := by kernel_rfl
theorem bitsLen_ok (v : denL (leaves bitsLen_i)) : bitsLen v = pevCall Try.prog E_len64 bitsLen_h Try.f107 bitsLen_i bitsLen_o bitsLen_r v := (bitsLen_eq v).trans (bitsLen_okd v)
theorem bitsLen_spec : SpecOK Try.prog 107 (mkCall 1 bitsLen_i bitsLen_o bitsLen_r bitsLen) := call_spec E_len64_ok Try.func107 bitsLen_b bitsLen_n rfl bitsLen_ok (LoopsOK_of bitsLen_q trivial)
def E_bitsLen : Env := E_len64.ext 107 true true (mkCall 1 bitsLen_i bitsLen_o bitsLen_r bitsLen)
theorem E_bitsLen_ok : EnvOK Try.prog E_bitsLen := Env.ext_ok E_len64_ok bitsLen_spec (fun _ => mkCall_local rfl rfl) (fun _ => mkCall_in rfl rfl)

-- (*slices.xorshift).Next
abbrev xorNext_h : Hints := { fp := fun n => match n with | 3 => [[], [0], [0], [], [0], [0], [], [], [0], [1]] | 2 => [[], [0], [0], [], [0], [0], [], [], [0], [1]] | 1 => [[], [0], [0], [], [0], [0], [], [], [0], [1]] | _ => [] }
theorem xorNext_okd : ∀ v, xorNext_d v = pevCall Try.prog E_bitsLen xorNext_h Try.f132 xorNext_i xorNext_o xorNext_r v := by
  rintro ⟨a0, ⟨⟩⟩
  kernel_rfl
theorem xorNext_q : loopList (bodyOf Try.f132) 0 = [] := by kernel_rfl
theorem xorNext_b : Try.f132.body.isSome = true := by kernel_rfl
theorem xorNext_n : (Try.f132.name == "runtime.NumGoroutine") = false := by kernel_rfl
theorem xorNext_ok (v : denL (leaves xorNext_i)) : xorNext v = pevCall Try.prog E_bitsLen xorNext_h Try.f132 xorNext_i xorNext_o xorNext_r v := (xorNext_eq v).trans (xorNext_okd v)
theorem xorNext_spec : SpecOK Try.prog 132 (mkCall 1 xorNext_i xorNext_o xorNext_r xorNext) := call_spec E_bitsLen_ok Try.func132 xorNext_b xorNext_n rfl xorNext_ok (LoopsOK_of xorNext_q trivial)
def E_xorNext : Env := E_bitsLen.ext 132 false true (mkCall 1 xorNext_i xorNext_o xorNext_r xorNext)
theorem E_xorNext_ok : EnvOK Try.prog E_xorNext := Env.ext_ok E_bitsLen_ok xorNext_spec ((by simp)) (fun _ => mkCall_in rfl rfl)

-- slices.insertionSortOrdered[uint32]
abbrev insW_h : Hints := { loop := fun n => match n with | 0 => loopBy 1 49 insW_i0 insW_o0 insW_s0 | 1 => loopBy 1 49 insW_i1 insW_o1 insW_s1 | _ => fun _ _ _ => none, fp := fun n => match n with | 4 => [[], [], [], [], [], [], [0], [0], [], [], [], [0], [0], [], []] | 6 => [[], [], [], [], [], [], [], [], [0], [0], [], [], [0], [0], [0], [1], [0], [1]] | _ => [] }
theorem insW_s1_ok : ∀ v, insW_s1 v = roundOf Try.prog E_xorNext insW_h 2 1 49 (loopOf Try.f111 1) insW_i1 insW_o1 v := by
  rintro ⟨a0, a1, a2, a3, a4, ⟨⟩⟩
  kernel_rfl
theorem insW_q1 : loopList (loopOf Try.f111 1) 2 = [] := by kernel_rfl
theorem insW_l1 : CodeOK Try.prog 1 (.loop (loopOf Try.f111 1)) (insW_h.loop 1) := loop_ok E_xorNext_ok (insW_s1_ok) (LoopsOK_of insW_q1 trivial)
theorem insW_s0_ok : ∀ v, insW_s0 v = roundOf Try.prog E_xorNext insW_h 1 1 49 (loopOf Try.f111 0) insW_i0 insW_o0 v := by
  rintro ⟨a0, a1, a2, a3, ⟨⟩⟩
  kernel_rfl
theorem insW_q0 : loopList (loopOf Try.f111 0) 1 = [(1, loopOf Try.f111 1)] := by kernel_rfl
theorem insW_l0 : CodeOK Try.prog 1 (.loop (loopOf Try.f111 0)) (insW_h.loop 0) := loop_ok E_xorNext_ok (insW_s0_ok) (LoopsOK_of insW_q0 ⟨insW_l1, trivial⟩)
theorem insW_okd : ∀ v, insW_d v = pevCall Try.prog E_xorNext insW_h Try.f111 insW_i insW_o insW_r v := by
  rintro ⟨a0, a1, a2, ⟨⟩⟩
  kernel_rfl
theorem insW_q : loopList (bodyOf Try.f111) 0 = [(0, loopOf Try.f111 0)] := by kernel_rfl
theorem insW_b : Try.f111.body.isSome = true := by kernel_rfl
theorem insW_n : (Try.f111.name == "runtime.NumGoroutine") = false := by kernel_rfl
theorem insW_ok (v : denL (leaves insW_i)) : insW v = pevCall Try.prog E_xorNext insW_h Try.f111 insW_i insW_o insW_r v := (insW_eq v).trans (insW_okd v)
theorem insW_spec : SpecOK Try.prog 111 (mkCall 3 insW_i insW_o insW_r insW) := call_spec E_xorNext_ok Try.func111 insW_b insW_n rfl insW_ok (LoopsOK_of insW_q ⟨insW_l0, trivial⟩)
def E_insW : Env := E_xorNext.ext 111 false true (mkCall 3 insW_i insW_o insW_r insW)
theorem E_insW_ok : EnvOK Try.prog E_insW := Env.ext_ok E_xorNext_ok insW_spec ((by simp)) (fun _ => mkCall_in rfl rfl)

-- slices.siftDownOrdered[uint32]
abbrev siftW_h : Hints := { loop := fun n => match n with | 0 => loopBy 1 76 siftW_i0 siftW_o0 siftW_s0 | _ => fun _ _ _ => none, fp := fun n => match n with | 6 => [[], [], [], [], [], [], [], [], [], [], [], [], [0], [0], [], [], [], [], [0], [0], [0], [1], [0], [1]] | 5 => [[], [], [], [], [0], [0], [], [], [], [], [0], [0], [], []] | 3 => [[], [], [], [], [], [], [], [], [], [0], [0], [], [], [], [], [], [0], [0], [], []] | _ => [] }
theorem siftW_s0_ok : ∀ v, siftW_s0 v = roundOf Try.prog E_insW siftW_h 1 1 76 (loopOf Try.f130 0) siftW_i0 siftW_o0 v := by
  rintro ⟨a0, a1, a2, a3, ⟨⟩⟩
  kernel_rfl
theorem siftW_q0 : loopList (loopOf Try.f130 0) 1 = [] := by kernel_rfl
theorem siftW_l0 : CodeOK Try.prog 1 (.loop (loopOf Try.f130 0)) (siftW_h.loop 0) := loop_ok E_insW_ok (siftW_s0_ok) (LoopsOK_of siftW_q0 trivial)
theorem siftW_okd : ∀ v, siftW_d v = pevCall Try.prog E_insW siftW_h Try.f130 siftW_i siftW_o siftW_r v := by
  rintro ⟨a0, a1, a2, a3, ⟨⟩⟩
  kernel_rfl
theorem siftW_q : loopList (bodyOf Try.f130) 0 = [(0, loopOf Try.f130 0)] := by kernel_rfl
theorem siftW_b : Try.f130.body.isSome = true := by kernel_rfl
theorem siftW_n : (Try.f130.name == "runtime.NumGoroutine") = false := by kernel_rfl
theorem siftW_ok (v : denL (leaves siftW_i)) : siftW v = pevCall Try.prog E_insW siftW_h Try.f130 siftW_i siftW_o siftW_r v := (siftW_eq v).trans (siftW_okd v)
theorem siftW_spec : SpecOK Try.prog 130 (mkCall 4 siftW_i siftW_o siftW_r siftW) := call_spec E_insW_ok Try.func130 siftW_b siftW_n rfl siftW_ok (LoopsOK_of siftW_q ⟨siftW_l0, trivial⟩)
def E_siftW : Env := E_insW.ext 130 false true (mkCall 4 siftW_i siftW_o siftW_r siftW)
theorem E_siftW_ok : EnvOK Try.prog E_siftW := Env.ext_ok E_insW_ok siftW_spec ((by simp)) (fun _ => mkCall_in rfl rfl)

-- slices.heapSortOrdered[uint32]
abbrev heapW_h : Hints := { loop := fun n => match n with | 0 => loopBy 1 56 heapW_i0 heapW_o0 heapW_s0 | 1 => loopBy 1 56 heapW_i1 heapW_o1 heapW_s1 | _ => fun _ _ _ => none, fp := fun n => match n with | 10 => [[], [], [], [], [], [], [], [], [], [], [0], [0], [], [], [0], [0], [0], [1], [0], [1]] | _ => [] }
theorem heapW_s1_ok : ∀ v, heapW_s1 v = roundOf Try.prog E_siftW heapW_h 2 1 56 (loopOf Try.f112 1) heapW_i1 heapW_o1 v := by
  rintro ⟨a0, a1, a2, a3, ⟨⟩⟩
  kernel_rfl
theorem heapW_q1 : loopList (loopOf Try.f112 1) 2 = [] := by kernel_rfl
theorem heapW_l1 : CodeOK Try.prog 1 (.loop (loopOf Try.f112 1)) (heapW_h.loop 1) := loop_ok E_siftW_ok (heapW_s1_ok) (LoopsOK_of heapW_q1 trivial)
theorem heapW_s0_ok : ∀ v, heapW_s0 v = roundOf Try.prog E_siftW heapW_h 1 1 56 (loopOf Try.f112 0) heapW_i0 heapW_o0 v := by
  rintro ⟨a0, a1, a2, a3, a4, ⟨⟩⟩
  kernel_rfl
theorem heapW_q0 : loopList (loopOf Try.f112 0) 1 = [] := by kernel_rfl
theorem heapW_l0 : CodeOK Try.prog 1 (.loop (loopOf Try.f112 0)) (heapW_h.loop 0) := loop_ok E_siftW_ok (heapW_s0_ok) (LoopsOK_of heapW_q0 trivial)
theorem heapW_okd : ∀ v, heapW_d v = pevCall Try.prog E_siftW heapW_h Try.f112 heapW_i heapW_o heapW_r v := by
  rintro ⟨a0, a1, a2, ⟨⟩⟩
  kernel_rfl
theorem heapW_q : loopList (bodyOf Try.f112) 0 = [(0, loopOf Try.f112 0), (1, loopOf Try.f112 1)] := by kernel_rfl
theorem heapW_b : Try.f112.body.isSome = true := by kernel_rfl
theorem heapW_n : (Try.f112.name == "runtime.NumGoroutine") = false := by kernel_rfl
theorem heapW_ok (v : denL (leaves heapW_i)) : heapW v = pevCall Try.prog E_siftW heapW_h Try.f112 heapW_i heapW_o heapW_r v := (heapW_eq v).trans (heapW_okd v)
theorem heapW_spec : SpecOK Try.prog 112 (mkCall 3 heapW_i heapW_o heapW_r heapW) := call_spec E_siftW_ok Try.func112 heapW_b heapW_n rfl heapW_ok (LoopsOK_of heapW_q ⟨heapW_l0, heapW_l1, trivial⟩)
def E_heapW : Env := E_siftW.ext 112 false true (mkCall 3 heapW_i heapW_o heapW_r heapW)
theorem E_heapW_ok : EnvOK Try.prog E_heapW := Env.ext_ok E_siftW_ok heapW_spec ((by simp)) (fun _ => mkCall_in rfl rfl)

-- slices.nextPowerOfTwo
abbrev nextPow_h : Hints := {  }
theorem nextPow_okd : ∀ v, nextPow_d v = pevCall Try.prog E_heapW nextPow_h Try.f131 nextPow_i nextPow_o nextPow_r v := by
  rintro ⟨a0, ⟨⟩⟩
  kernel_rfl
theorem nextPow_q : loopList (bodyOf Try.f131) 0 = [] := by kernel_rfl
theorem nextPow_b : Try.f131.body.isSome = true := by kernel_rfl
theorem nextPow_n : (Try.f131.name == "runtime.NumGoroutine") = false := by kernel_rfl
theorem nextPow_ok (v : denL (leaves nextPow_i)) : nextPow v = pevCall Try.prog E_heapW nextPow_h Try.f131 nextPow_i nextPow_o nextPow_r v := (nextPow_eq v).trans (nextPow_okd v)
theorem nextPow_spec : SpecOK Try.prog 131 (mkCall 1 nextPow_i nextPow_o nextPow_r nextPow) := call_spec E_heapW_ok Try.func131 nextPow_b nextPow_n rfl nextPow_ok (LoopsOK_of nextPow_q trivial)
def E_nextPow : Env := E_heapW.ext 131 true true (mkCall 1 nextPow_i nextPow_o nextPow_r nextPow)
theorem E_nextPow_ok : EnvOK Try.prog E_nextPow := Env.ext_ok E_heapW_ok nextPow_spec (fun _ => mkCall_local rfl rfl) (fun _ => mkCall_in rfl rfl)

-- slices.breakPatternsOrdered[uint32]
abbrev breakW_h : Hints := { loop := fun n => match n with | 0 => loopBy 1 65 breakW_i0 breakW_o0 breakW_s0 | _ => fun _ _ _ => none, fp := fun n => match n with | 10 => [[], [], [], [], [], [], [], [], [], [], [0], [0], [], [], [0], [0], [0], [1], [0], [1]] | _ => [] }
theorem breakW_s0_ok : ∀ v, breakW_s0 v = roundOf Try.prog E_nextPow breakW_h 1 1 65 (loopOf Try.f113 0) breakW_i0 breakW_o0 v := by
  rintro ⟨a0, a1, a2, a3, a4, a5, ⟨⟩⟩
  kernel_rfl
theorem breakW_q0 : loopList (loopOf Try.f113 0) 1 = [] := by kernel_rfl
theorem breakW_l0 : CodeOK Try.prog 1 (.loop (loopOf Try.f113 0)) (breakW_h.loop 0) := loop_ok E_nextPow_ok (breakW_s0_ok) (LoopsOK_of breakW_q0 trivial)
theorem breakW_okd : ∀ v, breakW_d v = pevCall Try.prog E_nextPow breakW_h Try.f113 breakW_i breakW_o breakW_r v := by
  rintro ⟨a0, a1, a2, ⟨⟩⟩
  kernel_rfl
theorem breakW_q : loopList (bodyOf Try.f113) 0 = [(0, loopOf Try.f113 0)] := by kernel_rfl
theorem breakW_b : Try.f113.body.isSome = true := by kernel_rfl
theorem breakW_n : (Try.f113.name == "runtime.NumGoroutine") = false := by kernel_rfl
theorem breakW_ok (v : denL (leaves breakW_i)) : breakW v = pevCall Try.prog E_nextPow breakW_h Try.f113 breakW_i breakW_o breakW_r v := (breakW_eq v).trans (breakW_okd v)
theorem breakW_spec : SpecOK Try.prog 113 (mkCall 3 breakW_i breakW_o breakW_r breakW) := call_spec E_nextPow_ok Try.func113 breakW_b breakW_n rfl breakW_ok (LoopsOK_of breakW_q ⟨breakW_l0, trivial⟩)
def E_breakW : Env := E_nextPow.ext 113 false true (mkCall 3 breakW_i breakW_o breakW_r breakW)
theorem E_breakW_ok : EnvOK Try.prog E_breakW := Env.ext_ok E_nextPow_ok breakW_spec ((by simp)) (fun _ => mkCall_in rfl rfl)

-- slices.order2Ordered[uint32]
abbrev order2W_h : Hints := { fp := fun n => match n with | 1 => [[], [], [0], [0], [], [], [0], [0], []] | _ => [] }
theorem order2W_okd : ∀ v, order2W_d v = pevCall Try.prog E_breakW order2W_h Try.f139 order2W_i order2W_o order2W_r v := by
  rintro ⟨a0, a1, a2, a3, ⟨⟩⟩
  kernel_rfl
theorem order2W_q : loopList (bodyOf Try.f139) 0 = [] := by kernel_rfl
theorem order2W_b : Try.f139.body.isSome = true := by kernel_rfl
theorem order2W_n : (Try.f139.name == "runtime.NumGoroutine") = false := by kernel_rfl
theorem order2W_ok (v : denL (leaves order2W_i)) : order2W v = pevCall Try.prog E_breakW order2W_h Try.f139 order2W_i order2W_o order2W_r v := (order2W_eq v).trans (order2W_okd v)
theorem order2W_spec : SpecOK Try.prog 139 (mkCall 4 order2W_i order2W_o order2W_r order2W) := call_spec E_breakW_ok Try.func139 order2W_b order2W_n rfl order2W_ok (LoopsOK_of order2W_q trivial)
def E_order2W : Env := E_breakW.ext 139 false true (mkCall 4 order2W_i order2W_o order2W_r order2W)
theorem E_order2W_ok : EnvOK Try.prog E_order2W := Env.ext_ok E_breakW_ok order2W_spec ((by simp)) (fun _ => mkCall_in rfl rfl)

end
end Go.Pev
end
section
/- The models are what the program computes. Printed by a program. -/
namespace Go.Pev
open Go.Proofs
set_option maxRecDepth 100000
noncomputable section
-- slices.medianOrdered[uint32]
abbrev medianW_h : Hints := {  }
theorem medianW_okd : ∀ v, medianW_d v = pevCall Try.prog E_order2W medianW_h Try.f134 medianW_i medianW_o medianW_r v := by
  rintro ⟨a0, a1, a2, a3, a4, ⟨⟩⟩
  kernel_rfl
theorem medianW_q : loopList (bodyOf Try.f134) 0 = [] := by kernel_rfl
theorem medianW_b : Try.f134.body.isSome = true := by kernel_rfl
theorem medianW_n : (Try.f134.name == "runtime.NumGoroutine") = false := by kernel_rfl
theorem medianW_ok (v : denL (leaves medianW_i)) : medianW v = pevCall Try.prog E_order2W medianW_h Try.f134 medianW_i medianW_o medianW_r v := (medianW_eq v).trans (medianW_okd v)
theorem medianW_spec : SpecOK Try.prog 134 (mkCall 5 medianW_i medianW_o medianW_r medianW) := call_spec E_order2W_ok Try.func134 medianW_b medianW_n rfl medianW_ok (LoopsOK_of medianW_q trivial)
def E_medianW : Env := E_order2W.ext 134 false true (mkCall 5 medianW_i medianW_o medianW_r medianW)
theorem E_medianW_ok : EnvOK Try.prog E_medianW := Env.ext_ok E_order2W_ok medianW_spec ((by simp)) (fun _ => mkCall_in rfl rfl)

-- slices.medianAdjacentOrdered[uint32]
abbrev medAdjW_h : Hints := {  }
theorem medAdjW_okd : ∀ v, medAdjW_d v = pevCall Try.prog E_medianW medAdjW_h Try.f133 medAdjW_i medAdjW_o medAdjW_r v := by
  rintro ⟨a0, a1, a2, ⟨⟩⟩
  kernel_rfl
theorem medAdjW_q : loopList (bodyOf Try.f133) 0 = [] := by kernel_rfl
theorem medAdjW_b : Try.f133.body.isSome = true := by kernel_rfl
theorem medAdjW_n : (Try.f133.name == "runtime.NumGoroutine") = false := by kernel_rfl
theorem medAdjW_ok (v : denL (leaves medAdjW_i)) : medAdjW v = pevCall Try.prog E_medianW medAdjW_h Try.f133 medAdjW_i medAdjW_o medAdjW_r v := (medAdjW_eq v).trans (medAdjW_okd v)
theorem medAdjW_spec : SpecOK Try.prog 133 (mkCall 3 medAdjW_i medAdjW_o medAdjW_r medAdjW) := call_spec E_medianW_ok Try.func133 medAdjW_b medAdjW_n rfl medAdjW_ok (LoopsOK_of medAdjW_q trivial)
def E_medAdjW : Env := E_medianW.ext 133 false true (mkCall 3 medAdjW_i medAdjW_o medAdjW_r medAdjW)
theorem E_medAdjW_ok : EnvOK Try.prog E_medAdjW := Env.ext_ok E_medianW_ok medAdjW_spec ((by simp)) (fun _ => mkCall_in rfl rfl)

-- slices.choosePivotOrdered[uint32]
abbrev pivotW_h : Hints := {  }
theorem pivotW_okd : ∀ v, pivotW_d v = pevCall Try.prog E_medAdjW pivotW_h Try.f114 pivotW_i pivotW_o pivotW_r v := by
  rintro ⟨a0, a1, a2, ⟨⟩⟩
  kernel_rfl
theorem pivotW_q : loopList (bodyOf Try.f114) 0 = [] := by kernel_rfl
theorem pivotW_b : Try.f114.body.isSome = true := by kernel_rfl
theorem pivotW_n : (Try.f114.name == "runtime.NumGoroutine") = false := by kernel_rfl
theorem pivotW_ok (v : denL (leaves pivotW_i)) : pivotW v = pevCall Try.prog E_medAdjW pivotW_h Try.f114 pivotW_i pivotW_o pivotW_r v := (pivotW_eq v).trans (pivotW_okd v)
theorem pivotW_spec : SpecOK Try.prog 114 (mkCall 3 pivotW_i pivotW_o pivotW_r pivotW) := call_spec E_medAdjW_ok Try.func114 pivotW_b pivotW_n rfl pivotW_ok (LoopsOK_of pivotW_q trivial)
def E_pivotW : Env := E_medAdjW.ext 114 false true (mkCall 3 pivotW_i pivotW_o pivotW_r pivotW)
theorem E_pivotW_ok : EnvOK Try.prog E_pivotW := Env.ext_ok E_medAdjW_ok pivotW_spec ((by simp)) (fun _ => mkCall_in rfl rfl)

-- slices.reverseRangeOrdered[uint32]
abbrev revW_h : Hints := { loop := fun n => match n with | 0 => loopBy 1 32 revW_i0 revW_o0 revW_s0 | _ => fun _ _ _ => none, fp := fun n => match n with | 3 => [[], [], [], [], [], [], [0], [0], [], [], [0], [0], [0], [1], [0], [1]] | _ => [] }
theorem revW_s0_ok : ∀ v, revW_s0 v = roundOf Try.prog E_pivotW revW_h 1 1 32 (loopOf Try.f115 0) revW_i0 revW_o0 v := by
  rintro ⟨a0, a1, a2, ⟨⟩⟩
  kernel_rfl
theorem revW_q0 : loopList (loopOf Try.f115 0) 1 = [] := by kernel_rfl
theorem revW_l0 : CodeOK Try.prog 1 (.loop (loopOf Try.f115 0)) (revW_h.loop 0) := loop_ok E_pivotW_ok (revW_s0_ok) (LoopsOK_of revW_q0 trivial)
theorem revW_okd : ∀ v, revW_d v = pevCall Try.prog E_pivotW revW_h Try.f115 revW_i revW_o revW_r v := by
  rintro ⟨a0, a1, a2, ⟨⟩⟩
  kernel_rfl
theorem revW_q : loopList (bodyOf Try.f115) 0 = [(0, loopOf Try.f115 0)] := by kernel_rfl
theorem revW_b : Try.f115.body.isSome = true := by kernel_rfl
theorem revW_n : (Try.f115.name == "runtime.NumGoroutine") = false := by kernel_rfl
theorem revW_ok (v : denL (leaves revW_i)) : revW v = pevCall Try.prog E_pivotW revW_h Try.f115 revW_i revW_o revW_r v := (revW_eq v).trans (revW_okd v)
theorem revW_spec : SpecOK Try.prog 115 (mkCall 3 revW_i revW_o revW_r revW) := call_spec E_pivotW_ok Try.func115 revW_b revW_n rfl revW_ok (LoopsOK_of revW_q ⟨revW_l0, trivial⟩)
def E_revW : Env := E_pivotW.ext 115 false true (mkCall 3 revW_i revW_o revW_r revW)
theorem E_revW_ok : EnvOK Try.prog E_revW := Env.ext_ok E_pivotW_ok revW_spec ((by simp)) (fun _ => mkCall_in rfl rfl)

-- slices.partialInsertionSortOrdered[uint32]
abbrev partInsW_h : Hints := { loop := fun n => match n with | 0 => loopBy 1 133 partInsW_i0 partInsW_o0 partInsW_s0 | 1 => loopBy 1 133 partInsW_i1 partInsW_o1 partInsW_s1 | 2 => loopBy 1 133 partInsW_i2 partInsW_o2 partInsW_s2 | 3 => loopBy 1 133 partInsW_i3 partInsW_o3 partInsW_s3 | _ => fun _ _ _ => none, fp := fun n => match n with | 11 => [[], [], [], [], [], [], [], [], [0], [0], [], [], [0], [0], [0], [1], [0], [1]] | 5 => [[], [], [], [], [], [], [0], [0], [], [], [], [0], [0], [], [], []] | 17 => [[], [], [], [], [], [], [], [], [0], [0], [], [], [0], [0], [0], [1], [0], [1]] | 16 => [[], [], [0], [0], [], [], [], [0], [0], [], []] | 23 => [[], [], [], [], [], [], [], [], [0], [0], [], [], [0], [0], [0], [1], [0], [1]] | 22 => [[], [], [0], [0], [], [], [], [0], [0], [], []] | _ => [] }
theorem partInsW_s3_ok : ∀ v, partInsW_s3 v = roundOf Try.prog E_revW partInsW_h 4 1 133 (loopOf Try.f116 3) partInsW_i3 partInsW_o3 v := by
  rintro ⟨a0, a1, a2, a3, a4, a5, ⟨⟩⟩
  kernel_rfl
theorem partInsW_q3 : loopList (loopOf Try.f116 3) 4 = [] := by kernel_rfl
theorem partInsW_l3 : CodeOK Try.prog 1 (.loop (loopOf Try.f116 3)) (partInsW_h.loop 3) := loop_ok E_revW_ok (partInsW_s3_ok) (LoopsOK_of partInsW_q3 trivial)
theorem partInsW_s2_ok : ∀ v, partInsW_s2 v = roundOf Try.prog E_revW partInsW_h 3 1 133 (loopOf Try.f116 2) partInsW_i2 partInsW_o2 v := by
  rintro ⟨a0, a1, a2, a3, a4, a5, ⟨⟩⟩
  kernel_rfl
theorem partInsW_q2 : loopList (loopOf Try.f116 2) 3 = [] := by kernel_rfl
theorem partInsW_l2 : CodeOK Try.prog 1 (.loop (loopOf Try.f116 2)) (partInsW_h.loop 2) := loop_ok E_revW_ok (partInsW_s2_ok) (LoopsOK_of partInsW_q2 trivial)
theorem partInsW_s1_ok : ∀ v, partInsW_s1 v = roundOf Try.prog E_revW partInsW_h 2 1 133 (loopOf Try.f116 1) partInsW_i1 partInsW_o1 v := by
  rintro ⟨a0, a1, a2, a3, a4, ⟨⟩⟩
  kernel_rfl
theorem partInsW_q1 : loopList (loopOf Try.f116 1) 2 = [] := by kernel_rfl
theorem partInsW_l1 : CodeOK Try.prog 1 (.loop (loopOf Try.f116 1)) (partInsW_h.loop 1) := loop_ok E_revW_ok (partInsW_s1_ok) (LoopsOK_of partInsW_q1 trivial)
theorem partInsW_s0_ok : ∀ v, partInsW_s0 v = roundOf Try.prog E_revW partInsW_h 1 1 133 (loopOf Try.f116 0) partInsW_i0 partInsW_o0 v := by
  rintro ⟨a0, a1, a2, a3, a4, ⟨⟩⟩
  kernel_rfl
theorem partInsW_q0 : loopList (loopOf Try.f116 0) 1 = [(1, loopOf Try.f116 1), (2, loopOf Try.f116 2), (3, loopOf Try.f116 3)] := by kernel_rfl
theorem partInsW_l0 : CodeOK Try.prog 1 (.loop (loopOf Try.f116 0)) (partInsW_h.loop 0) := loop_ok E_revW_ok (partInsW_s0_ok) (LoopsOK_of partInsW_q0 ⟨partInsW_l1, partInsW_l2, partInsW_l3, trivial⟩)
theorem partInsW_okd : ∀ v, partInsW_d v = pevCall Try.prog E_revW partInsW_h Try.f116 partInsW_i partInsW_o partInsW_r v := by
  rintro ⟨a0, a1, a2, ⟨⟩⟩
  kernel_rfl
theorem partInsW_q : loopList (bodyOf Try.f116) 0 = [(0, loopOf Try.f116 0)] := by kernel_rfl
theorem partInsW_b : Try.f116.body.isSome = true := by kernel_rfl
theorem partInsW_n : (Try.f116.name == "runtime.NumGoroutine") = false := by kernel_rfl
theorem partInsW_ok (v : denL (leaves partInsW_i)) : partInsW v = pevCall Try.prog E_revW partInsW_h Try.f116 partInsW_i partInsW_o partInsW_r v := (partInsW_eq v).trans (partInsW_okd v)
theorem partInsW_spec : SpecOK Try.prog 116 (mkCall 3 partInsW_i partInsW_o partInsW_r partInsW) := call_spec E_revW_ok Try.func116 partInsW_b partInsW_n rfl partInsW_ok (LoopsOK_of partInsW_q ⟨partInsW_l0, trivial⟩)
def E_partInsW : Env := E_revW.ext 116 false true (mkCall 3 partInsW_i partInsW_o partInsW_r partInsW)
theorem E_partInsW_ok : EnvOK Try.prog E_partInsW := Env.ext_ok E_revW_ok partInsW_spec ((by simp)) (fun _ => mkCall_in rfl rfl)

-- slices.partitionEqualOrdered[uint32]
abbrev partEqW_h : Hints := { loop := fun n => match n with | 0 => loopBy 1 84 partEqW_i0 partEqW_o0 partEqW_s0 | 1 => loopBy 1 84 partEqW_i1 partEqW_o1 partEqW_s1 | 2 => loopBy 1 84 partEqW_i2 partEqW_o2 partEqW_s2 | _ => fun _ _ _ => none, fp := fun n => match n with | 8 => [[], [], [], [], [], [], [0], [0], [], [], [0], [0], [0], [1], [0], [1]] | 3 => [[], [], [], [], [], [], [0], [0], [], [], [0], [0], [], [], []] | 5 => [[], [], [], [], [], [], [0], [0], [], [], [0], [0], [], []] | 1 => [[], [], [], [], [], [], [0], [0], [], [], [0], [0], [0], [1], [0], [1]] | _ => [] }
theorem partEqW_s2_ok : ∀ v, partEqW_s2 v = roundOf Try.prog E_partInsW partEqW_h 3 1 84 (loopOf Try.f118 2) partEqW_i2 partEqW_o2 v := by
  rintro ⟨a0, a1, a2, a3, ⟨⟩⟩
  kernel_rfl
theorem partEqW_q2 : loopList (loopOf Try.f118 2) 3 = [] := by kernel_rfl
theorem partEqW_l2 : CodeOK Try.prog 1 (.loop (loopOf Try.f118 2)) (partEqW_h.loop 2) := loop_ok E_partInsW_ok (partEqW_s2_ok) (LoopsOK_of partEqW_q2 trivial)
theorem partEqW_s1_ok : ∀ v, partEqW_s1 v = roundOf Try.prog E_partInsW partEqW_h 2 1 84 (loopOf Try.f118 1) partEqW_i1 partEqW_o1 v := by
  rintro ⟨a0, a1, a2, a3, ⟨⟩⟩
  kernel_rfl
theorem partEqW_q1 : loopList (loopOf Try.f118 1) 2 = [] := by kernel_rfl
theorem partEqW_l1 : CodeOK Try.prog 1 (.loop (loopOf Try.f118 1)) (partEqW_h.loop 1) := loop_ok E_partInsW_ok (partEqW_s1_ok) (LoopsOK_of partEqW_q1 trivial)
theorem partEqW_s0_ok : ∀ v, partEqW_s0 v = roundOf Try.prog E_partInsW partEqW_h 1 1 84 (loopOf Try.f118 0) partEqW_i0 partEqW_o0 v := by
  rintro ⟨a0, a1, a2, a3, ⟨⟩⟩
  kernel_rfl
theorem partEqW_q0 : loopList (loopOf Try.f118 0) 1 = [(1, loopOf Try.f118 1), (2, loopOf Try.f118 2)] := by kernel_rfl
theorem partEqW_l0 : CodeOK Try.prog 1 (.loop (loopOf Try.f118 0)) (partEqW_h.loop 0) := loop_ok E_partInsW_ok (partEqW_s0_ok) (LoopsOK_of partEqW_q0 ⟨partEqW_l1, partEqW_l2, trivial⟩)
theorem partEqW_okd : ∀ v, partEqW_d v = pevCall Try.prog E_partInsW partEqW_h Try.f118 partEqW_i partEqW_o partEqW_r v := by
  rintro ⟨a0, a1, a2, a3, ⟨⟩⟩
  kernel_rfl
theorem partEqW_q : loopList (bodyOf Try.f118) 0 = [(0, loopOf Try.f118 0)] := by kernel_rfl
theorem partEqW_b : Try.f118.body.isSome = true := by kernel_rfl
theorem partEqW_n : (Try.f118.name == "runtime.NumGoroutine") = false := by kernel_rfl
theorem partEqW_ok (v : denL (leaves partEqW_i)) : partEqW v = pevCall Try.prog E_partInsW partEqW_h Try.f118 partEqW_i partEqW_o partEqW_r v := (partEqW_eq v).trans (partEqW_okd v)
theorem partEqW_spec : SpecOK Try.prog 118 (mkCall 4 partEqW_i partEqW_o partEqW_r partEqW) := call_spec E_partInsW_ok Try.func118 partEqW_b partEqW_n rfl partEqW_ok (LoopsOK_of partEqW_q ⟨partEqW_l0, trivial⟩)
def E_partEqW : Env := E_partInsW.ext 118 false true (mkCall 4 partEqW_i partEqW_o partEqW_r partEqW)
theorem E_partEqW_ok : EnvOK Try.prog E_partEqW := Env.ext_ok E_partInsW_ok partEqW_spec ((by simp)) (fun _ => mkCall_in rfl rfl)

-- slices.partitionOrdered[uint32]
abbrev partW_h : Hints := { loop := fun n => match n with | 0 => loopBy 1 168 partW_i0 partW_o0 partW_s0 | 1 => loopBy 1 168 partW_i1 partW_o1 partW_s1 | 2 => loopBy 1 168 partW_i2 partW_o2 partW_s2 | 3 => loopBy 1 168 partW_i3 partW_o3 partW_s3 | 4 => loopBy 1 168 partW_i4 partW_o4 partW_s4 | _ => fun _ _ _ => none, fp := fun n => match n with | 3 => [[], [], [], [], [], [], [0], [0], [], [], [0], [0], [], []] | 5 => [[], [], [], [], [], [], [0], [0], [], [], [0], [0], [], [], []] | 18 => [[], [], [], [], [], [], [0], [0], [], [], [0], [0], [0], [1], [0], [1]] | 13 => [[], [], [], [], [], [], [0], [0], [], [], [0], [0], [], []] | 15 => [[], [], [], [], [], [], [0], [0], [], [], [0], [0], [], [], []] | 21 => [[], [], [], [], [], [], [0], [0], [], [], [0], [0], [0], [1], [0], [1]] | 10 => [[], [], [], [], [], [], [0], [0], [], [], [0], [0], [0], [1], [0], [1]] | 8 => [[], [], [], [], [], [], [0], [0], [], [], [0], [0], [0], [1], [0], [1]] | 1 => [[], [], [], [], [], [], [0], [0], [], [], [0], [0], [0], [1], [0], [1]] | _ => [] }
theorem partW_s4_ok : ∀ v, partW_s4 v = roundOf Try.prog E_partEqW partW_h 5 1 168 (loopOf Try.f119 4) partW_i4 partW_o4 v := by
  rintro ⟨a0, a1, a2, a3, ⟨⟩⟩
  kernel_rfl
theorem partW_q4 : loopList (loopOf Try.f119 4) 5 = [] := by kernel_rfl
theorem partW_l4 : CodeOK Try.prog 1 (.loop (loopOf Try.f119 4)) (partW_h.loop 4) := loop_ok E_partEqW_ok (partW_s4_ok) (LoopsOK_of partW_q4 trivial)
theorem partW_s3_ok : ∀ v, partW_s3 v = roundOf Try.prog E_partEqW partW_h 4 1 168 (loopOf Try.f119 3) partW_i3 partW_o3 v := by
  rintro ⟨a0, a1, a2, a3, ⟨⟩⟩
  kernel_rfl
theorem partW_q3 : loopList (loopOf Try.f119 3) 4 = [] := by kernel_rfl
theorem partW_l3 : CodeOK Try.prog 1 (.loop (loopOf Try.f119 3)) (partW_h.loop 3) := loop_ok E_partEqW_ok (partW_s3_ok) (LoopsOK_of partW_q3 trivial)
theorem partW_s2_ok : ∀ v, partW_s2 v = roundOf Try.prog E_partEqW partW_h 3 1 168 (loopOf Try.f119 2) partW_i2 partW_o2 v := by
  rintro ⟨a0, a1, a2, a3, ⟨⟩⟩
  kernel_rfl
theorem partW_q2 : loopList (loopOf Try.f119 2) 3 = [(3, loopOf Try.f119 3), (4, loopOf Try.f119 4)] := by kernel_rfl
theorem partW_l2 : CodeOK Try.prog 1 (.loop (loopOf Try.f119 2)) (partW_h.loop 2) := loop_ok E_partEqW_ok (partW_s2_ok) (LoopsOK_of partW_q2 ⟨partW_l3, partW_l4, trivial⟩)
theorem partW_s1_ok : ∀ v, partW_s1 v = roundOf Try.prog E_partEqW partW_h 2 1 168 (loopOf Try.f119 1) partW_i1 partW_o1 v := by
  rintro ⟨a0, a1, a2, a3, ⟨⟩⟩
  kernel_rfl
theorem partW_q1 : loopList (loopOf Try.f119 1) 2 = [] := by kernel_rfl
theorem partW_l1 : CodeOK Try.prog 1 (.loop (loopOf Try.f119 1)) (partW_h.loop 1) := loop_ok E_partEqW_ok (partW_s1_ok) (LoopsOK_of partW_q1 trivial)
theorem partW_s0_ok : ∀ v, partW_s0 v = roundOf Try.prog E_partEqW partW_h 1 1 168 (loopOf Try.f119 0) partW_i0 partW_o0 v := by
  rintro ⟨a0, a1, a2, a3, ⟨⟩⟩
  kernel_rfl
theorem partW_q0 : loopList (loopOf Try.f119 0) 1 = [] := by kernel_rfl
theorem partW_l0 : CodeOK Try.prog 1 (.loop (loopOf Try.f119 0)) (partW_h.loop 0) := loop_ok E_partEqW_ok (partW_s0_ok) (LoopsOK_of partW_q0 trivial)
theorem partW_okd : ∀ v, partW_d v = pevCall Try.prog E_partEqW partW_h Try.f119 partW_i partW_o partW_r v := by
  rintro ⟨a0, a1, a2, a3, ⟨⟩⟩
  kernel_rfl
theorem partW_q : loopList (bodyOf Try.f119) 0 = [(0, loopOf Try.f119 0), (1, loopOf Try.f119 1), (2, loopOf Try.f119 2)] := by kernel_rfl
theorem partW_b : Try.f119.body.isSome = true := by kernel_rfl
theorem partW_n : (Try.f119.name == "runtime.NumGoroutine") = false := by kernel_rfl
theorem partW_ok (v : denL (leaves partW_i)) : partW v = pevCall Try.prog E_partEqW partW_h Try.f119 partW_i partW_o partW_r v := (partW_eq v).trans (partW_okd v)
theorem partW_spec : SpecOK Try.prog 119 (mkCall 4 partW_i partW_o partW_r partW) := call_spec E_partEqW_ok Try.func119 partW_b partW_n rfl partW_ok (LoopsOK_of partW_q ⟨partW_l0, partW_l1, partW_l2, trivial⟩)
def E_partW : Env := E_partEqW.ext 119 false true (mkCall 4 partW_i partW_o partW_r partW)
theorem E_partW_ok : EnvOK Try.prog E_partW := Env.ext_ok E_partEqW_ok partW_spec ((by simp)) (fun _ => mkCall_in rfl rfl)

-- slices.pdqsortOrdered[uint32]
abbrev pdqW_h (self : (List Int × Int × Int × Int × Unit) → Option ((List Int × Unit))) : Hints := { loop := fun n => match n with | 0 => loopBy 1 134 pdqW_i0 pdqW_o0 (pdqW_s0 self) | _ => fun _ _ _ => none, fp := fun n => match n with | 17 => [[], [], [], [], [], [], [0], [0], [], [], [0], [0], [], [], []] | _ => [] }
abbrev pdqW_E (self : (List Int × Int × Int × Int × Unit) → Option ((List Int × Unit))) : Env := E_partW.ext 106 false true (mkCall 4 pdqW_i pdqW_o pdqW_r self)
theorem pdqW_s0_ok (self : (List Int × Int × Int × Int × Unit) → Option ((List Int × Unit))) : ∀ v, pdqW_s0 self v = roundOf Try.prog (pdqW_E self) (pdqW_h self) 1 1 134 (loopOf Try.f106 0) pdqW_i0 pdqW_o0 v := by
  rintro ⟨a0, a1, a2, a3, a4, a5, ⟨⟩⟩
  kernel_rfl
theorem pdqW_q0 : loopList (loopOf Try.f106 0) 1 = [] := by kernel_rfl
theorem pdqW_l0 (self : (List Int × Int × Int × Int × Unit) → Option ((List Int × Unit))) (hE : EnvOK Try.prog (pdqW_E self)) : CodeOK Try.prog 1 (.loop (loopOf Try.f106 0)) ((pdqW_h self).loop 0) := loop_ok hE (pdqW_s0_ok self) (LoopsOK_of pdqW_q0 trivial)
theorem pdqW_okd (self : (List Int × Int × Int × Int × Unit) → Option ((List Int × Unit))) : ∀ v, pdqW_d self v = pevCall Try.prog (pdqW_E self) (pdqW_h self) Try.f106 pdqW_i pdqW_o pdqW_r v := by
  rintro ⟨a0, a1, a2, a3, ⟨⟩⟩
  kernel_rfl
theorem pdqW_q : loopList (bodyOf Try.f106) 0 = [(0, loopOf Try.f106 0)] := by kernel_rfl
theorem pdqW_b : Try.f106.body.isSome = true := by kernel_rfl
theorem pdqW_n : (Try.f106.name == "runtime.NumGoroutine") = false := by kernel_rfl
theorem pdqW_fspec : ∀ n, SpecOK Try.prog 106 (mkCall 4 pdqW_i pdqW_o pdqW_r (pdqW_f n)) := by
  intro n
  induction n with
  | zero => exact mkCall_none fun _ => rfl
  | succ n ih =>
    have hE : EnvOK Try.prog (pdqW_E (pdqW_f n)) := Env.ext_ok E_partW_ok ih ((by simp)) (fun _ => mkCall_in rfl rfl)
    let self := pdqW_f n
    exact call_spec hE Try.func106 pdqW_b pdqW_n rfl (pdqW_okd self) (LoopsOK_of pdqW_q ⟨(pdqW_l0 self hE), trivial⟩)
theorem pdqW_spec : SpecOK Try.prog 106 (mkCall 4 pdqW_i pdqW_o pdqW_r pdqW) := by
  have e : pdqW = pdqW_f 100 := funext pdqW_eq
  rw [e]
  exact pdqW_fspec _
def E_pdqW : Env := E_partW.ext 106 false true (mkCall 4 pdqW_i pdqW_o pdqW_r pdqW)
theorem E_pdqW_ok : EnvOK Try.prog E_pdqW := Env.ext_ok E_partW_ok pdqW_spec ((by simp)) (fun _ => mkCall_in rfl rfl)

-- slices.Sort[[]uint32,uint32]
abbrev sortW_h : Hints := {  }
theorem sortW_okd : ∀ v, sortW_d v = pevCall Try.prog E_pdqW sortW_h Try.f89 sortW_i sortW_o sortW_r v := by
  rintro ⟨a0, ⟨⟩⟩
  kernel_rfl
theorem sortW_q : loopList (bodyOf Try.f89) 0 = [] := by kernel_rfl
theorem sortW_b : Try.f89.body.isSome = true := by kernel_rfl
theorem sortW_n : (Try.f89.name == "runtime.NumGoroutine") = false := by kernel_rfl
theorem sortW_ok (v : denL (leaves sortW_i)) : sortW v = pevCall Try.prog E_pdqW sortW_h Try.f89 sortW_i sortW_o sortW_r v := (sortW_eq v).trans (sortW_okd v)
theorem sortW_spec : SpecOK Try.prog 89 (mkCall 1 sortW_i sortW_o sortW_r sortW) := call_spec E_pdqW_ok Try.func89 sortW_b sortW_n rfl sortW_ok (LoopsOK_of sortW_q trivial)
def E_sortW : Env := E_pdqW.ext 89 false true (mkCall 1 sortW_i sortW_o sortW_r sortW)
theorem E_sortW_ok : EnvOK Try.prog E_sortW := Env.ext_ok E_pdqW_ok sortW_spec ((by simp)) (fun _ => mkCall_in rfl rfl)

-- archipelago/table.rising
abbrev rising_h : Hints := {  }
theorem rising_okd : ∀ v, rising_d v = pevCall Try.prog E_sortW rising_h Try.f59 rising_i rising_o rising_r v := by
  rintro ⟨a0, ⟨⟩⟩
  kernel_rfl
theorem rising_q : loopList (bodyOf Try.f59) 0 = [] := by kernel_rfl
theorem rising_b : Try.f59.body.isSome = true := by kernel_rfl
theorem rising_n : (Try.f59.name == "runtime.NumGoroutine") = false := by kernel_rfl
theorem rising_ok (v : denL (leaves rising_i)) : rising v = pevCall Try.prog E_sortW rising_h Try.f59 rising_i rising_o rising_r v := (rising_eq v).trans (rising_okd v)
theorem rising_spec : SpecOK Try.prog 59 (mkCall 1 rising_i rising_o rising_r rising) := call_spec E_sortW_ok Try.func59 rising_b rising_n rfl rising_ok (LoopsOK_of rising_q trivial)
def E_rising : Env := E_sortW.ext 59 true true (mkCall 1 rising_i rising_o rising_r rising)
theorem E_rising_ok : EnvOK Try.prog E_rising := Env.ext_ok E_sortW_ok rising_spec (fun _ => mkCall_local rfl rfl) (fun _ => mkCall_in rfl rfl)

-- archipelago/table.Make
abbrev make_h : Hints := { loop := fun n => match n with | 0 => loopBy 0 60 make_i0 make_o0 make_s0 | _ => fun _ _ _ => none, fp := fun n => match n with | 12 => [[2], [2], [], [2], [2], [], [], [4], [5], [6], [7]] | 7 => [[], [], [], [], [], [], [], [23]] | _ => [] }
theorem make_s0_ok : ∀ v, make_s0 v = roundOf Try.prog E_rising make_h 1 0 60 (loopOf Try.f17 0) make_i0 make_o0 v := by
  rintro ⟨a0, a1, a2, a3, a4, a5, a6, ⟨⟩⟩
  kernel_rfl
theorem make_q0 : loopList (loopOf Try.f17 0) 1 = [] := by kernel_rfl
theorem make_l0 : CodeOK Try.prog 0 (.loop (loopOf Try.f17 0)) (make_h.loop 0) := loop_ok E_rising_ok (make_s0_ok) (LoopsOK_of make_q0 trivial)
theorem make_okd : ∀ v, make_d v = pevCall Try.prog E_rising make_h Try.f17 make_i make_o make_r v := by
  rintro ⟨a0, a1, ⟨⟩⟩
  kernel_rfl
theorem make_q : loopList (bodyOf Try.f17) 0 = [(0, loopOf Try.f17 0)] := by kernel_rfl
theorem make_b : Try.f17.body.isSome = true := by kernel_rfl
theorem make_n : (Try.f17.name == "runtime.NumGoroutine") = false := by kernel_rfl
theorem make_ok (v : denL (leaves make_i)) : make v = pevCall Try.prog E_rising make_h Try.f17 make_i make_o make_r v := (make_eq v).trans (make_okd v)
theorem make_spec : SpecOK Try.prog 17 (mkCall 2 make_i make_o make_r make) := call_spec E_rising_ok Try.func17 make_b make_n rfl make_ok (LoopsOK_of make_q ⟨make_l0, trivial⟩)
def E_make : Env := E_rising.ext 17 true true (mkCall 2 make_i make_o make_r make)
theorem E_make_ok : EnvOK Try.prog E_make := Env.ext_ok E_rising_ok make_spec (fun _ => mkCall_local rfl rfl) (fun _ => mkCall_in rfl rfl)

-- archipelago/table.Keys
abbrev keys_h : Hints := { loop := fun n => match n with | 0 => loopBy 0 33 keys_i0 keys_o0 keys_s0 | _ => fun _ _ _ => none }
theorem keys_s0_ok : ∀ v, keys_s0 v = roundOf Try.prog E_make keys_h 1 0 33 (loopOf Try.f27 0) keys_i0 keys_o0 v := by
  rintro ⟨a0, a1, a2, a3, a4, a5, a6, ⟨⟩⟩
  kernel_rfl
theorem keys_q0 : loopList (loopOf Try.f27 0) 1 = [] := by kernel_rfl
theorem keys_l0 : CodeOK Try.prog 0 (.loop (loopOf Try.f27 0)) (keys_h.loop 0) := loop_ok E_make_ok (keys_s0_ok) (LoopsOK_of keys_q0 trivial)
theorem keys_okd : ∀ v, keys_d v = pevCall Try.prog E_make keys_h Try.f27 keys_i keys_o keys_r v := by
  rintro ⟨a0, ⟨⟩⟩
  kernel_rfl
theorem keys_q : loopList (bodyOf Try.f27) 0 = [(0, loopOf Try.f27 0)] := by kernel_rfl
theorem keys_b : Try.f27.body.isSome = true := by kernel_rfl
theorem keys_n : (Try.f27.name == "runtime.NumGoroutine") = false := by kernel_rfl
theorem keys_ok (v : denL (leaves keys_i)) : keys v = pevCall Try.prog E_make keys_h Try.f27 keys_i keys_o keys_r v := (keys_eq v).trans (keys_okd v)
theorem keys_spec : SpecOK Try.prog 27 (mkCall 1 keys_i keys_o keys_r keys) := call_spec E_make_ok Try.func27 keys_b keys_n rfl keys_ok (LoopsOK_of keys_q ⟨keys_l0, trivial⟩)
def E_keys : Env := E_make.ext 27 true true (mkCall 1 keys_i keys_o keys_r keys)
theorem E_keys_ok : EnvOK Try.prog E_keys := Env.ext_ok E_make_ok keys_spec (fun _ => mkCall_local rfl rfl) (fun _ => mkCall_in rfl rfl)

end
end Go.Pev
end
section
/- The models are what the program computes. Printed by a program. -/
namespace Go.Pev
open Go.Proofs
set_option maxRecDepth 100000
noncomputable section
-- archipelago/table.Right
abbrev right_h : Hints := { fp := fun n => match n with | 1 => [[0], [0], [0], [], [2], [], [], [], [], [19], []] | _ => [] }
theorem right_okd : ∀ v, right_d v = pevCall Try.prog E_keys right_h Try.f24 right_i right_o right_r v := by
  rintro ⟨a0, ⟨⟩⟩
  kernel_rfl
theorem right_q : loopList (bodyOf Try.f24) 0 = [] := by kernel_rfl
theorem right_b : Try.f24.body.isSome = true := by kernel_rfl
theorem right_n : (Try.f24.name == "runtime.NumGoroutine") = false := by kernel_rfl
theorem right_ok (v : denL (leaves right_i)) : right v = pevCall Try.prog E_keys right_h Try.f24 right_i right_o right_r v := (right_eq v).trans (right_okd v)
theorem right_spec : SpecOK Try.prog 24 (mkCall 1 right_i right_o right_r right) := call_spec E_keys_ok Try.func24 right_b right_n rfl right_ok (LoopsOK_of right_q trivial)
def E_right : Env := E_keys.ext 24 true true (mkCall 1 right_i right_o right_r right)
theorem E_right_ok : EnvOK Try.prog E_right := Env.ext_ok E_keys_ok right_spec (fun _ => mkCall_local rfl rfl) (fun _ => mkCall_in rfl rfl)

-- archipelago/table.Find
abbrev find_h : Hints := {  }
theorem find_okd : ∀ v, find_d v = pevCall Try.prog E_right find_h Try.f19 find_i find_o find_r v := by
  rintro ⟨a0, a1, ⟨⟩⟩
  kernel_rfl
theorem find_q : loopList (bodyOf Try.f19) 0 = [] := by kernel_rfl
theorem find_b : Try.f19.body.isSome = true := by kernel_rfl
theorem find_n : (Try.f19.name == "runtime.NumGoroutine") = false := by kernel_rfl
theorem find_ok (v : denL (leaves find_i)) : find v = pevCall Try.prog E_right find_h Try.f19 find_i find_o find_r v := (find_eq v).trans (find_okd v)
theorem find_spec : SpecOK Try.prog 19 (mkCall 2 find_i find_o find_r find) := call_spec E_right_ok Try.func19 find_b find_n rfl find_ok (LoopsOK_of find_q trivial)
def E_find : Env := E_right.ext 19 true true (mkCall 2 find_i find_o find_r find)
theorem E_find_ok : EnvOK Try.prog E_find := Env.ext_ok E_right_ok find_spec (fun _ => mkCall_local rfl rfl) (fun _ => mkCall_in rfl rfl)

-- archipelago/table.Put$1
abbrev put1_h : Hints := {  }
theorem put1_okd : ∀ v, put1_d v = pevCall Try.prog E_find put1_h Try.f52 put1_i put1_o put1_r v := by
  rintro ⟨a0, a1, ⟨⟩⟩
  kernel_rfl
theorem put1_q : loopList (bodyOf Try.f52) 0 = [] := by kernel_rfl
theorem put1_b : Try.f52.body.isSome = true := by kernel_rfl
theorem put1_n : (Try.f52.name == "runtime.NumGoroutine") = false := by kernel_rfl
theorem put1_ok (v : denL (leaves put1_i)) : put1 v = pevCall Try.prog E_find put1_h Try.f52 put1_i put1_o put1_r v := (put1_eq v).trans (put1_okd v)
theorem put1_spec : SpecOK Try.prog 52 (mkCall 2 put1_i put1_o put1_r put1) := call_spec E_find_ok Try.func52 put1_b put1_n rfl put1_ok (LoopsOK_of put1_q trivial)
def E_put1 : Env := E_find.ext 52 false true (mkCall 2 put1_i put1_o put1_r put1)
theorem E_put1_ok : EnvOK Try.prog E_put1 := Env.ext_ok E_find_ok put1_spec ((by simp)) (fun _ => mkCall_in rfl rfl)

-- archipelago/table.Drop$1$1: gone through in place
theorem drop11_b : Try.f56.body.isSome = true := by kernel_rfl
theorem drop11_n : (Try.f56.name == "runtime.NumGoroutine") = false := by kernel_rfl
theorem drop11_z : loops (bodyOf Try.f56) = 0 := by kernel_rfl

def E_drop11_1 : Env := E_put1.ext 56 false false (mkInline Try.prog E_put1 {} Try.f56)
theorem E_drop11_1_ok : EnvOK Try.prog E_drop11_1 := Env.ext_ok E_put1_ok (inline_spec E_put1_ok Try.func56 drop11_b drop11_n drop11_z) (by simp) (by simp)

-- slices.IndexFunc[[]uint32,uint32]
abbrev idxFuncW_drop_h : Hints := { loop := fun n => match n with | 0 => loopBy 2 19 idxFuncW_drop_i0 idxFuncW_drop_o0 idxFuncW_drop_s0 | _ => fun _ _ _ => none }
theorem idxFuncW_drop_s0_ok : ∀ v, idxFuncW_drop_s0 v = roundOf Try.prog E_drop11_1 idxFuncW_drop_h 1 2 19 (loopOf Try.f86 0) idxFuncW_drop_i0 idxFuncW_drop_o0 v := by
  rintro ⟨a0, a1, a2, a3, ⟨⟩⟩
  kernel_rfl
theorem idxFuncW_drop_q0 : loopList (loopOf Try.f86 0) 1 = [] := by kernel_rfl
theorem idxFuncW_drop_l0 : CodeOK Try.prog 2 (.loop (loopOf Try.f86 0)) (idxFuncW_drop_h.loop 0) := loop_ok E_drop11_1_ok (idxFuncW_drop_s0_ok) (LoopsOK_of idxFuncW_drop_q0 trivial)
theorem idxFuncW_drop_okd : ∀ v, idxFuncW_drop_d v = pevCall Try.prog E_drop11_1 idxFuncW_drop_h Try.f86 idxFuncW_drop_i idxFuncW_drop_o idxFuncW_drop_r v := by
  rintro ⟨a0, a1, ⟨⟩⟩
  kernel_rfl
theorem idxFuncW_drop_q : loopList (bodyOf Try.f86) 0 = [(0, loopOf Try.f86 0)] := by kernel_rfl
theorem idxFuncW_drop_b : Try.f86.body.isSome = true := by kernel_rfl
theorem idxFuncW_drop_n : (Try.f86.name == "runtime.NumGoroutine") = false := by kernel_rfl
theorem idxFuncW_drop_ok (v : denL (leaves idxFuncW_drop_i)) : idxFuncW_drop v = pevCall Try.prog E_drop11_1 idxFuncW_drop_h Try.f86 idxFuncW_drop_i idxFuncW_drop_o idxFuncW_drop_r v := (idxFuncW_drop_eq v).trans (idxFuncW_drop_okd v)
theorem idxFuncW_drop_spec : SpecOK Try.prog 86 (mkCall 2 idxFuncW_drop_i idxFuncW_drop_o idxFuncW_drop_r idxFuncW_drop) := call_spec E_drop11_1_ok Try.func86 idxFuncW_drop_b idxFuncW_drop_n rfl idxFuncW_drop_ok (LoopsOK_of idxFuncW_drop_q ⟨idxFuncW_drop_l0, trivial⟩)
def E_idxFuncW_drop : Env := E_drop11_1.extC 86 1 56 (mkCall 2 idxFuncW_drop_i idxFuncW_drop_o idxFuncW_drop_r idxFuncW_drop)
theorem E_idxFuncW_drop_ok : EnvOK Try.prog E_idxFuncW_drop := Env.extC_ok E_drop11_1_ok idxFuncW_drop_spec (mkCall_in rfl rfl)

-- slices.DeleteFunc[[]uint32,uint32]
abbrev delFuncW_drop_h : Hints := { loop := fun n => match n with | 0 => loopBy 2 42 delFuncW_drop_i0 delFuncW_drop_o0 delFuncW_drop_s0 | _ => fun _ _ _ => none }
theorem delFuncW_drop_s0_ok : ∀ v, delFuncW_drop_s0 v = roundOf Try.prog E_idxFuncW_drop delFuncW_drop_h 1 2 42 (loopOf Try.f55 0) delFuncW_drop_i0 delFuncW_drop_o0 v := by
  rintro ⟨a0, a1, a2, a3, ⟨⟩⟩
  kernel_rfl
theorem delFuncW_drop_q0 : loopList (loopOf Try.f55 0) 1 = [] := by kernel_rfl
theorem delFuncW_drop_l0 : CodeOK Try.prog 2 (.loop (loopOf Try.f55 0)) (delFuncW_drop_h.loop 0) := loop_ok E_idxFuncW_drop_ok (delFuncW_drop_s0_ok) (LoopsOK_of delFuncW_drop_q0 trivial)
theorem delFuncW_drop_okd : ∀ v, delFuncW_drop_d v = pevCall Try.prog E_idxFuncW_drop delFuncW_drop_h Try.f55 delFuncW_drop_i delFuncW_drop_o delFuncW_drop_r v := by
  rintro ⟨a0, a1, ⟨⟩⟩
  kernel_rfl
theorem delFuncW_drop_q : loopList (bodyOf Try.f55) 0 = [(0, loopOf Try.f55 0)] := by kernel_rfl
theorem delFuncW_drop_b : Try.f55.body.isSome = true := by kernel_rfl
theorem delFuncW_drop_n : (Try.f55.name == "runtime.NumGoroutine") = false := by kernel_rfl
theorem delFuncW_drop_ok (v : denL (leaves delFuncW_drop_i)) : delFuncW_drop v = pevCall Try.prog E_idxFuncW_drop delFuncW_drop_h Try.f55 delFuncW_drop_i delFuncW_drop_o delFuncW_drop_r v := (delFuncW_drop_eq v).trans (delFuncW_drop_okd v)
theorem delFuncW_drop_spec : SpecOK Try.prog 55 (mkCall 2 delFuncW_drop_i delFuncW_drop_o delFuncW_drop_r delFuncW_drop) := call_spec E_idxFuncW_drop_ok Try.func55 delFuncW_drop_b delFuncW_drop_n rfl delFuncW_drop_ok (LoopsOK_of delFuncW_drop_q ⟨delFuncW_drop_l0, trivial⟩)
def E_delFuncW_drop : Env := E_idxFuncW_drop.extC 55 1 56 (mkCall 2 delFuncW_drop_i delFuncW_drop_o delFuncW_drop_r delFuncW_drop)
theorem E_delFuncW_drop_ok : EnvOK Try.prog E_delFuncW_drop := Env.extC_ok E_idxFuncW_drop_ok delFuncW_drop_spec (mkCall_in rfl rfl)

-- archipelago/table.Drop$1
abbrev drop1_h : Hints := {  }
theorem drop1_okd : ∀ v, drop1_d v = pevCall Try.prog E_delFuncW_drop drop1_h Try.f54 drop1_i drop1_o drop1_r v := by
  rintro ⟨a0, a1, ⟨⟩⟩
  kernel_rfl
theorem drop1_q : loopList (bodyOf Try.f54) 0 = [] := by kernel_rfl
theorem drop1_b : Try.f54.body.isSome = true := by kernel_rfl
theorem drop1_n : (Try.f54.name == "runtime.NumGoroutine") = false := by kernel_rfl
theorem drop1_ok (v : denL (leaves drop1_i)) : drop1 v = pevCall Try.prog E_delFuncW_drop drop1_h Try.f54 drop1_i drop1_o drop1_r v := (drop1_eq v).trans (drop1_okd v)
theorem drop1_spec : SpecOK Try.prog 54 (mkCall 2 drop1_i drop1_o drop1_r drop1) := call_spec E_delFuncW_drop_ok Try.func54 drop1_b drop1_n rfl drop1_ok (LoopsOK_of drop1_q trivial)
def E_drop1 : Env := E_delFuncW_drop.ext 54 false true (takeBack (mkCall 2 drop1_i drop1_o drop1_r drop1))
theorem E_drop1_ok : EnvOK Try.prog E_drop1 := Env.ext_ok E_delFuncW_drop_ok (takeBack_ok drop1_spec) ((by simp)) (fun _ => take_in rfl rfl)

-- archipelago/table.changed: gone through in place
theorem changed_b : Try.f51.body.isSome = true := by kernel_rfl
theorem changed_n : (Try.f51.name == "runtime.NumGoroutine") = false := by kernel_rfl
theorem changed_z : loops (bodyOf Try.f51) = 0 := by kernel_rfl

def E_changed_2 : Env := E_drop1.ext 51 false false (mkInline Try.prog E_drop1 { fp := fun n => match n with | 3 => [[14], [14], [], [14], [], [1000005, 3, 27], [34], [], [], [], [], [51], []] | _ => [] } Try.f51)
theorem E_changed_2_ok : EnvOK Try.prog E_changed_2 := Env.ext_ok E_drop1_ok (inline_spec E_drop1_ok Try.func51 changed_b changed_n changed_z) (by simp) (by simp)

-- archipelago/table.Put
abbrev put_h : Hints := {  }
theorem put_okd : ∀ v, put_d v = pevCall Try.prog E_changed_2 put_h Try.f13 put_i put_o put_r v := by
  rintro ⟨a0, a1, ⟨⟩⟩
  kernel_rfl
theorem put_q : loopList (bodyOf Try.f13) 0 = [] := by kernel_rfl
theorem put_b : Try.f13.body.isSome = true := by kernel_rfl
theorem put_n : (Try.f13.name == "runtime.NumGoroutine") = false := by kernel_rfl
theorem put_ok (v : denL (leaves put_i)) : put v = pevCall Try.prog E_changed_2 put_h Try.f13 put_i put_o put_r v := (put_eq v).trans (put_okd v)
theorem put_spec : SpecOK Try.prog 13 (mkCall 2 put_i put_o put_r put) := call_spec E_changed_2_ok Try.func13 put_b put_n rfl put_ok (LoopsOK_of put_q trivial)
def E_put : Env := E_changed_2.ext 13 true true (mkCall 2 put_i put_o put_r put)
theorem E_put_ok : EnvOK Try.prog E_put := Env.ext_ok E_changed_2_ok put_spec (fun _ => mkCall_local rfl rfl) (fun _ => mkCall_in rfl rfl)

def E_changed_3 : Env := E_put.ext 51 false false (mkInline Try.prog E_put { fp := fun n => match n with | 3 => [[14], [14], [], [14], [], [1000005, 3, 27], [40], [], [], [], [], [51], []] | _ => [] } Try.f51)
theorem E_changed_3_ok : EnvOK Try.prog E_changed_3 := Env.ext_ok E_put_ok (inline_spec E_put_ok Try.func51 changed_b changed_n changed_z) (by simp) (by simp)

-- archipelago/table.Drop
abbrev drop_h : Hints := {  }
theorem drop_okd : ∀ v, drop_d v = pevCall Try.prog E_changed_3 drop_h Try.f15 drop_i drop_o drop_r v := by
  rintro ⟨a0, a1, ⟨⟩⟩
  kernel_rfl
theorem drop_q : loopList (bodyOf Try.f15) 0 = [] := by kernel_rfl
theorem drop_b : Try.f15.body.isSome = true := by kernel_rfl
theorem drop_n : (Try.f15.name == "runtime.NumGoroutine") = false := by kernel_rfl
theorem drop_ok (v : denL (leaves drop_i)) : drop v = pevCall Try.prog E_changed_3 drop_h Try.f15 drop_i drop_o drop_r v := (drop_eq v).trans (drop_okd v)
theorem drop_spec : SpecOK Try.prog 15 (mkCall 2 drop_i drop_o drop_r drop) := call_spec E_changed_3_ok Try.func15 drop_b drop_n rfl drop_ok (LoopsOK_of drop_q trivial)
def E_drop : Env := E_changed_3.ext 15 true true (mkCall 2 drop_i drop_o drop_r drop)
theorem E_drop_ok : EnvOK Try.prog E_drop := Env.ext_ok E_changed_3_ok drop_spec (fun _ => mkCall_local rfl rfl) (fun _ => mkCall_in rfl rfl)

-- archipelago/archipelagoref11.Has
abbrev has11_h : Hints := { loop := fun n => match n with | 0 => loopBy 0 18 has11_i0 has11_o0 has11_s0 | _ => fun _ _ _ => none }
theorem has11_s0_ok : ∀ v, has11_s0 v = roundOf Try.prog E_drop has11_h 1 0 18 (loopOf Try.f30 0) has11_i0 has11_o0 v := by
  rintro ⟨a0, a1, a2, ⟨⟩⟩
  kernel_rfl
theorem has11_q0 : loopList (loopOf Try.f30 0) 1 = [] := by kernel_rfl
theorem has11_l0 : CodeOK Try.prog 0 (.loop (loopOf Try.f30 0)) (has11_h.loop 0) := loop_ok E_drop_ok (has11_s0_ok) (LoopsOK_of has11_q0 trivial)
theorem has11_okd : ∀ v, has11_d v = pevCall Try.prog E_drop has11_h Try.f30 has11_i has11_o has11_r v := by
  rintro ⟨a0, a1, ⟨⟩⟩
  kernel_rfl
theorem has11_q : loopList (bodyOf Try.f30) 0 = [(0, loopOf Try.f30 0)] := by kernel_rfl
theorem has11_b : Try.f30.body.isSome = true := by kernel_rfl
theorem has11_n : (Try.f30.name == "runtime.NumGoroutine") = false := by kernel_rfl
theorem has11_ok (v : denL (leaves has11_i)) : has11 v = pevCall Try.prog E_drop has11_h Try.f30 has11_i has11_o has11_r v := (has11_eq v).trans (has11_okd v)
theorem has11_spec : SpecOK Try.prog 30 (mkCall 2 has11_i has11_o has11_r has11) := call_spec E_drop_ok Try.func30 has11_b has11_n rfl has11_ok (LoopsOK_of has11_q ⟨has11_l0, trivial⟩)
def E_has11 : Env := E_drop.ext 30 true true (mkCall 2 has11_i has11_o has11_r has11)
theorem E_has11_ok : EnvOK Try.prog E_has11 := Env.ext_ok E_drop_ok has11_spec (fun _ => mkCall_local rfl rfl) (fun _ => mkCall_in rfl rfl)

-- archipelago/archipelagoref11.Without
abbrev without11_h : Hints := { loop := fun n => match n with | 0 => loopBy 0 28 without11_i0 without11_o0 without11_s0 | _ => fun _ _ _ => none }
theorem without11_s0_ok : ∀ v, without11_s0 v = roundOf Try.prog E_has11 without11_h 1 0 28 (loopOf Try.f29 0) without11_i0 without11_o0 v := by
  rintro ⟨a0, a1, a2, a3, ⟨⟩⟩
  kernel_rfl
theorem without11_q0 : loopList (loopOf Try.f29 0) 1 = [] := by kernel_rfl
theorem without11_l0 : CodeOK Try.prog 0 (.loop (loopOf Try.f29 0)) (without11_h.loop 0) := loop_ok E_has11_ok (without11_s0_ok) (LoopsOK_of without11_q0 trivial)
theorem without11_okd : ∀ v, without11_d v = pevCall Try.prog E_has11 without11_h Try.f29 without11_i without11_o without11_r v := by
  rintro ⟨a0, a1, ⟨⟩⟩
  kernel_rfl
theorem without11_q : loopList (bodyOf Try.f29) 0 = [(0, loopOf Try.f29 0)] := by kernel_rfl
theorem without11_b : Try.f29.body.isSome = true := by kernel_rfl
theorem without11_n : (Try.f29.name == "runtime.NumGoroutine") = false := by kernel_rfl
theorem without11_ok (v : denL (leaves without11_i)) : without11 v = pevCall Try.prog E_has11 without11_h Try.f29 without11_i without11_o without11_r v := (without11_eq v).trans (without11_okd v)
theorem without11_spec : SpecOK Try.prog 29 (mkCall 2 without11_i without11_o without11_r without11) := call_spec E_has11_ok Try.func29 without11_b without11_n rfl without11_ok (LoopsOK_of without11_q ⟨without11_l0, trivial⟩)
def E_without11 : Env := E_has11.ext 29 true true (mkCall 2 without11_i without11_o without11_r without11)
theorem E_without11_ok : EnvOK Try.prog E_without11 := Env.ext_ok E_has11_ok without11_spec (fun _ => mkCall_local rfl rfl) (fun _ => mkCall_in rfl rfl)

end
end Go.Pev
end
