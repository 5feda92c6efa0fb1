/- A part of the proofs of this seat: KA T18d PevTake PevClaim KB KC KD PlnC KE KF KG KH. -/
import Derived.Test.YtaamkoofmojajaaGreatP1a20a6f9bb
import Derived.ProofKit
import Derived.ChangeArms
import Derived.ReadAgain
import Derived.Deep.Slices
import Derived.OpenShut
import Derived.KernelRfl
set_option linter.unusedVariables false
set_option linter.unusedSimpArgs false
set_option linter.unusedSectionVars false
section
section
namespace Go.Pev.Pl
open Tok
def In (n v : Int) : Prop := 1 ≤ n ∧ n ≤ 64 ∧ 0 ≤ v ∧ v < n
instance (n v : Int) : Decidable (In n v) := inferInstanceAs (Decidable (_ ∧ _))
def Sz (n : Int) : Prop := 1 ≤ n ∧ n ≤ 64
instance (n : Int) : Decidable (Sz n) := inferInstanceAs (Decidable (_ ∧ _))
theorem IB (n : Int) : JM (n, ()) = some (decide (Sz n), ()) := by
 rw [Y6, M4]
 simp only [A2]
 by_cases h1 : 1 ≤ n <;> by_cases h2 : n ≤ 64 <;> simp [Sz, h1, h2]
theorem SZ (n v : Int) : tin (n, v, ()) = some (decide (In n v), ()) := by
 rw [ARd, AMZ]
 simp only [IB, A2, Aj]
 by_cases h1 : 1 ≤ n <;> by_cases h2 : n ≤ 64 <;> by_cases h3 : 0 ≤ v <;> simp [In, Sz, h1, h2, h3]
def AXh (n v : Int) : Int := if In n v then v else -1
def LN (n u v : Int) : Int := if In n u ∧ In n v ∧ u ≠ v then n * (u + 1) + v else -1
theorem Ic {n u : Int} (h1 : 1 ≤ n) (h2 : n ≤ 64) (h3 : 0 ≤ u) (h4 : u ≤ 64) : 0 ≤ n * u ∧ n * u ≤ 4096 := by
 refine ⟨Int.mul_nonneg (by omega) h3, ?_⟩
 have := Int.mul_le_mul h2 h4 h3 (by omega)
 omega
theorem ARh (n u v : Int) : AOR (n, u, v, ()) = some (LN n u v, ()) := by
 rw [AMa, ABJ]
 simp only [SZ, LN, Av]
 by_cases h3 : u = v
 ·simp [h3]
 ·by_cases h1 : In n u
  ·by_cases h2 : In n v
   ·obtain ⟨a1, a2, a3, a4⟩ := h1
    obtain ⟨b1, b2, b3, b4⟩ := h2
    have hb := Ic (u := u + 1) a1 a2 (by omega) (by omega)
    rw [Ah (n := u + 1) (by omega), Ah (n := n * (u + 1)) (by omega), Ah (n := n * (u + 1) + v) (by omega)]
    simp [In, a1, a2, a3, a4, b3, b4, h3]
   ·simp [h1, h2, h3]
  ·simp [h1, h3]
def Dn (n t : Int) : Option Tok :=
 if In n t then some (.ver t)
 else if Sz n ∧ n ≤ t ∧ t < n * (n + 1) ∧ t / n - 1 ≠ t % n then some (.arc (t / n - 1) (t % n))
 else none
def AId : Option Tok → Int × Int × Bool × Bool × Unit
 | some (.ver v) => (v, 0, false, true, ())
 | some (.arc u v) => (u, v, true, true, ())
 | none => (0, 0, false, false, ())
def Ef (n : Int) : Tok → Int
 | .ver v => v
 | .arc u v => n * (u + 1) + v
def okT (n : Int) : Tok → Prop
 | .ver v => In n v
 | .arc u v => In n u ∧ In n v ∧ u ≠ v
theorem Sw {n u v : Int} (h1 : In n u) (h2 : In n v) : n ≤ n * (u + 1) + v ∧ n * (u + 1) + v < n * (n + 1) ∧ (n * (u + 1) + v) / n = u + 1 ∧ (n * (u + 1) + v) % n = v := by
 obtain ⟨a1, a2, a3, a4⟩ := h1
 obtain ⟨b1, b2, b3, b4⟩ := h2
 have e2 : n * (u + 1) = n * u + n := by rw [Int.mul_add, Int.mul_one]
 have e3 : n * (n + 1) = n * n + n := by rw [Int.mul_add, Int.mul_one]
 have hb := Ic (u := u) a1 a2 (by omega) (by omega)
 have hle : n * (u + 1) ≤ n * n := Int.mul_le_mul_of_nonneg_left (by omega) (by omega)
 have hd : (n * (u + 1) + v) / n = u + 1 := by
  rw [Int.add_comm, Int.add_mul_ediv_left _ _ (by omega), Int.ediv_eq_zero_of_lt b3 b4]; omega
 have hm : (n * (u + 1) + v) % n = v := by
  rw [Int.add_comm, Int.add_mul_emod_self_left, Int.emod_eq_of_lt b3 b4]
 exact ⟨by omega, by omega, hd, hm⟩
theorem ANr {n t : Int} (hn : Sz n) (h1 : n ≤ t) (h2 : t < n * (n + 1)) : In n (t / n - 1) ∧ In n (t % n) ∧ n * (t / n - 1 + 1) + t % n = t := by
 obtain ⟨a1, a2⟩ := hn
 have g1 : 1 ≤ t / n := (Int.le_ediv_iff_mul_le (by omega)).2 (by omega)
 have g2 : t / n < n + 1 := (Int.ediv_lt_iff_lt_mul (by omega)).2 (by rw [Int.mul_comm]; exact h2)
 have g3 := Int.emod_nonneg t (show n ≠ 0 by omega)
 have g4 := Int.emod_lt_of_pos t (show 0 < n by omega)
 have g5 := Int.mul_ediv_add_emod t n
 refine ⟨⟨a1, a2, by omega, by omega⟩, ⟨a1, a2, g3, g4⟩, ?_⟩
 rw [Int.sub_add_cancel]
 exact g5
theorem ED {n : Int} {t : Tok} (h : okT n t) : Dn n (Ef n t) = some t := by
 cases t with
 | ver v => simp only [okT] at h; simp [Dn, Ef, h]
 | arc u v =>
  obtain ⟨h1, h2, h3⟩ := h
  obtain ⟨g1, g2, g3, g4⟩ := Sw h1 h2
  have hni : ¬ In n (n * (u + 1) + v) := fun h => by have := h.2.2.2; omega
  have : u + 1 - 1 = u := by omega
  simp only [Dn, Ef, hni, if_false, g3, g4, this]
  rw [if_pos ⟨⟨h1.1, h1.2.1⟩, g1, g2, h3⟩]
theorem AQg {n x : Int} {t : Tok} (h : Dn n x = some t) : okT n t ∧ Ef n t = x := by
 rw [Dn] at h
 split at h
 ·cases h; exact ⟨by assumption, rfl⟩
 ·split at h
  ·rename_i hh
   cases h
   obtain ⟨d1, d2, d3⟩ := ANr hh.1 hh.2.1 hh.2.2.1
   exact ⟨⟨d1, d2, hh.2.2.2⟩, d3⟩
  ·cases h
theorem Gc {n u v : Int} (h : okT n (.arc u v)) : LN n u v = Ef n (.arc u v) := by
 simp only [okT] at h
 rw [LN, if_pos h]; rfl
theorem OM {n : Int} {a b : Tok} (ha : okT n a) (hb : okT n b) (h : Ef n a = Ef n b) : a = b := by
 have := ED ha
 rw [h, ED hb] at this
 exact (Option.some.inj this).symm
theorem AIV (n t : Int) (ht : -9223372036854775808 ≤ t ∧ t ≤ 9223372036854775807) : TF (n, t, ()) = some (AId (Dn n t)) := by
 rw [Y5, M3]
 simp only [IB]
 by_cases hs : Sz n
 ·obtain ⟨a1, a2⟩ := hs
  have hb := Ic (u := n) a1 a2 (by omega) (by omega)
  have e3 : n * (n + 1) = n * n + n := by rw [Int.mul_add, Int.mul_one]
  rw [Ah (n := n + 1) (by omega), Ah (n := n * (n + 1)) (by omega)]
  simp only [Sz, a1, a2, and_self, decide_true, Bool.not_true, Aj, A2]
  by_cases h1 : t < 0
  ·have hni : ¬ In n t := fun h => by have := h.2.2.1; omega
   have h2 : ¬ n ≤ t := by omega
   simp only [h1, decide_true, Dn, hni, if_false, h2, false_and, and_false, AId]
  ·simp only [h1, decide_false]
   by_cases h2 : n * (n + 1) ≤ t
   ·have hni : ¬ In n t := fun h => by have := h.2.2.2; omega
    have h3 : ¬ t < n * (n + 1) := by omega
    simp only [h2, decide_true, Dn, hni, if_false, h3, false_and, and_false, AId]
   ·simp only [h2, decide_false]
    by_cases h3 : t < n
    ·have hi : In n t := ⟨a1, a2, by omega, h3⟩
     simp only [h3, decide_true, Dn, hi, if_true, AId]
    ·have hni : ¬ In n t := fun h => h3 h.2.2.2
     have hq : t.tdiv n = t / n := Int.tdiv_eq_ediv_of_nonneg (by omega)
     have hm : t.tmod n = t % n := Int.tmod_eq_emod_of_nonneg (by omega)
     obtain ⟨d1, d2, d3⟩ := ANr (t := t) ⟨a1, a2⟩ (by omega) (by omega)
     have q1 := d1.2.2.1
     have q2 := d1.2.2.2
     simp only [h3, decide_false, Vc, R6, AJu, YU]
     rw [if_neg (by omega), if_neg (by omega), hq, hm, Ah (n := t / n) (by omega)]
     simp only []
     rw [Ah (n := t / n - 1) (by omega), Av, Dn, if_neg hni]
     by_cases h4 : t / n - 1 = t % n
     ·rw [if_neg (by intro h; exact h.2.2.2 h4), decide_eq_true h4]; rfl
     ·rw [if_pos ⟨⟨a1, a2⟩, by omega, by omega, h4⟩, decide_eq_false h4]; rfl
 ·have hni : ¬ In n t := fun h => hs ⟨h.1, h.2.1⟩
  simp only [hs, decide_false, Bool.not_false, Dn, hni, if_false, false_and, AId]
def Bg (n : Nat) : List (List Int) := (List.range n).map fun (v : Nat) => [(v : Int)]
theorem ABx (n : Nat) : Bg (n + 1) = Bg n ++ [[(n : Int)]] := by simp [Bg, List.range_succ]
theorem AFg (n : Nat) : (Bg n).length = n := by simp [Bg]
theorem AIf (N : Nat) (hN : N ≤ 64) (c : Int) : ∀ (k i n : Nat), i + k = N → k < n → AU GB n (c, (N : Int), Bg i, (N : Int), (i : Int), ()) = some (.inl (c, (N : Int), Bg N, ())) := by
 intro k
 induction k with
 | zero =>
  intro i n hi hn
  obtain ⟨n, rfl⟩ : ∃ k, n = k + 1 := ⟨n - 1, by omega⟩
  have : i = N := by omega
  subst this
  rw [AU, GB, AL, decide_eq_false (by omega)]
 | succ k ih =>
  intro i n hi hn
  obtain ⟨n, rfl⟩ : ∃ k, n = k + 1 := ⟨n - 1, by omega⟩
  rw [AU, GB, AL, decide_eq_true (by omega)]
  simp only [AP, AFg, List.length_cons, List.length_nil]
  rw [B6 (by omega), AM (by omega)]
  simp only [HZ, ← ABx]
  exact ih (i + 1) n (by omega) (by omega)
def So (n : Int) : Int × List (List Int) × Int × Unit := if Sz n then (n, Bg n.toNat, 0, ()) else (0, [], 1, ())
theorem AON (n : Int) : AE4 (n, ()) = some (So n) := by
 have hm : 4294967296 < many := by simp only [many]; omega
 rw [AE3, SY, So]
 simp only [IB]
 by_cases h : Sz n
 ·obtain ⟨h1, h2⟩ := h
  obtain ⟨N, rfl⟩ := Int.eq_ofNat_of_zero_le (show 0 ≤ n by omega)
  have hS : Sz (N : Int) := ⟨by omega, by omega⟩
  have e := AIf N (by omega) 0 N 0 many (by omega) (by omega)
  have e' : AU GB many (0, (N : Int), [], (N : Int), (0 : Int), ()) = _ := e
  simp [hS, Ag, e']
 ·simp [h]
end Go.Pev.Pl
end
section
namespace Go.Pev.Pl
theorem MQ (xs : List Int) (t : Int) (hs : xs.length < 9223372036854775808) : MR (xs, t, ()) = some (pos xs t, ()) := by
 rw [AAF, N2]
 have e := OG (step := EU) (fun i => (xs, t, AQ xs, (i : Int), ())) xs (fun x => decide (x = t)) (fun i => .inl ((i : Int), ())) (.inr (.inl ())) hs
  (fun i x hi hx => by
   rw [EU, AP, AL, decide_eq_true hi]
   simp only [AY hx, Av]
   by_cases h : x = t
   ·simp [h]
   ·simp only [h, Ne.symm h, decide_false]; rw [AM (by omega)]; simp)
  (by rw [EU, AP, AL, decide_eq_false (by omega)])
 have e' : AR EU many (xs, t, AQ xs, (0 : Int), ()) = _ := e
 rw [e', AWZ, pos]
 by_cases h : t ∈ xs <;> simp [h]
theorem Ha (xs : List Int) (t : Int) (hs : xs.length < 9223372036854775808) : Eh (xs, t, ()) = some (decide (t ∈ xs), ()) := by
 rw [OQ, G9]
 simp only [MQ xs t hs, A2]
 by_cases h : t ∈ xs
 ·obtain ⟨k, e, _⟩ := ASd h
  rw [e]; simp [h]
 ·rw [AM1 h]; simp [h]
def Rt (xs : List Int) : Prop := xs.length ≤ 1000 ∧ (∀ x ∈ xs, 0 ≤ x ∧ x ≤ 10000) ∧ xs.Nodup
instance (xs : List Int) : Decidable (Rt xs) := inferInstanceAs (Decidable (_ ∧ _ ∧ _))
theorem AHq (xs : List Int) (hs : xs.length < 9223372036854775808) : DI (xs, ()) = some (xs.any (fun x => decide (x < 0) || decide (10000 < x)), ()) := by
 rw [Hy, DO, JF, D0]
 have e := OG (step := Bc) (fun i => (xs, AQ xs, (i : Int), ())) xs (fun x => decide (x < 0) || decide (10000 < x)) (fun i => .inl ((i : Int), ())) (.inr (.inl ())) hs
  (fun i x hi hx => by
   rw [Bc, AP, AL, decide_eq_true hi]
   simp only [AY hx, Aj]
   rw [AM (by omega)]
   by_cases h : x < 0
   ·simp [h]
   ·by_cases h2 : 10000 < x
    ·simp [h, h2]
    ·simp [h, h2])
  (by rw [Bc, AP, AL, decide_eq_false (by omega)])
 have e' : AR Bc many (xs, AQ xs, (0 : Int), ()) = _ := e
 rw [e']
 generalize (xs.any fun x => decide (x < 0) || decide (10000 < x)) = b
 cases b <;> simp [A2]
theorem AS8 (xs : List Int) (hs : xs.length < 9223372036854775808) : once (xs, ()) = some (decide xs.Nodup, ()) := by
 rw [ANC, ACi]
 have e := CQ (step := IZ) (fun i m => (xs, m, xs, AQ xs, (i : Int), ())) xs (fun x m => .inl (Ai m x (IntKind.wrap .i64 (((Ac m x).getD (0 : Int)) + (1 : Int))))) (fun m => .inl (xs, m, ())) (fun _ _ => True) hs
  (fun i x m hi hx _ => by
   refine ⟨fun m' h' => ?_, fun r h' => by cases h'⟩
   cases h'
   rw [IZ, AP, AL, decide_eq_true hi]
   simp only [AY hx]
   rw [AM (by omega)]
   exact ⟨rfl, trivial⟩)
  (fun m _ => by rw [IZ, AP, AL, decide_eq_false (by omega)]) [] trivial
 have e' : AR IZ many (xs, ([] : List (Int × Int)), xs, AQ xs, (0 : Int), ()) = _ := e
 rw [e', BB]
 have key : ∀ (l : List Int) (m : List (Int × Int)), A1 (l.foldl (fun m x => Ai m x (IntKind.wrap .i64 (((Ac m x).getD (0 : Int)) + (1 : Int)))) m) = dd (A1 m) l := by
  intro l
  induction l with
  | nil => intro m; rfl
  | cons x l ih => intro m; rw [List.foldl_cons, ih, MM, dd]
 have hk := key xs []
 generalize xs.foldl (fun m x => Ai m x (IntKind.wrap .i64 (((Ac m x).getD (0 : Int)) + (1 : Int)))) [] = m at *
 simp only [ATc]
 have : m.length = (dd [] xs).length := by rw [← QD, hk]; rfl
 rw [this]
 simp only [AUG]
theorem L6 (xs : List Int) : L7 (xs, ()) = some (decide (Rt xs), ()) := by
 rw [Zm, Nb, AP, Aj]
 by_cases hl : xs.length ≤ 1000
 ·rw [decide_eq_false (by omega)]
  simp only [AHq xs (by omega), AS8 xs (by omega)]
  have hany : (xs.any fun x => decide (x < 0) || decide (10000 < x)) = !decide (∀ x ∈ xs, 0 ≤ x ∧ x ≤ 10000) := by
   rw [Bool.eq_iff_iff]
   simp only [List.any_eq_true, Bool.or_eq_true, decide_eq_true_eq, Bool.not_eq_true', decide_eq_false_iff_not]
   constructor
   ·rintro ⟨x, hx, h⟩ hh
    have := hh x hx
    omega
   ·intro h
    refine Classical.byContradiction fun hc => h fun x hx => ?_
    refine Classical.byContradiction fun hn => hc ⟨x, hx, by omega⟩
  rw [hany]
  by_cases h1 : ∀ x ∈ xs, 0 ≤ x ∧ x ≤ 10000
  ·rw [decide_eq_true h1]
   by_cases h2 : xs.Nodup
   ·rw [decide_eq_true h2, decide_eq_true (show Rt xs from ⟨hl, h1, h2⟩)]; rfl
   ·rw [decide_eq_false h2, decide_eq_false (show ¬ Rt xs from fun h => h2 h.2.2)]; rfl
  ·rw [decide_eq_false h1, decide_eq_false (show ¬ Rt xs from fun h => h1 h.2.1)]; rfl
 ·rw [decide_eq_true (by omega), decide_eq_false (show ¬ Rt xs from fun h => hl h.1)]
def rot (xs : List Int) (k : Nat) : List Int := xs.drop k ++ xs.take k
theorem AQK (n : Nat) (hn : n < 4294967296) : AHN ((n : Int), ()) = some ([], ()) := by
 have e0 : IntKind.wrap .i64 ((n : Int) - IntKind.wrap .i64 ((0 : Int) - 0)) = (n : Int) := by rw [Ah (n := (0 : Int) - 0) (by omega), Ah (by omega)]; omega
 rw [AHM, Ss]
 simp only [e0, Aj]
 rw [decide_eq_false (by omega)]
 simp only []
 by_cases h : 0 < n
 ·rw [decide_eq_true (by omega)]
  have s1 : HL ([] : List Unit) (0 : Int) (0 : Int) = some [] := by rw [Sb]; rfl
  have s2 : HL (KE (AG (n : Int)) (0 : Int)) (0 : Int) (0 : Int) = some [] := by
   rw [Sb, LP, if_pos (by omega)]
   simp
  have s3 : Hv (n : Int) = true := (Hu _).2 (by omega)
  simp only [s1, s2, s3]
  rfl
 ·rw [decide_eq_false (by omega)]
theorem G6 {α : Type} {xss : List (List α)} {i : Nat} {x : List α} (h : xss[i]? = some x) : (xss.take (i + 1)).flatten = (xss.take i).flatten ++ x := by
 rw [List.take_add_one, h]; simp
theorem JG {α : Type} (xss : List (List α)) (i : Nat) : (xss.take i).flatten.length ≤ xss.flatten.length := by
 conv => rhs; rw [← List.take_append_drop i xss, List.flatten_append, List.length_append]
 omega
theorem RY (xss : List (List Int)) (hs : xss.length < 4294967296) (h : xss.flatten.length < 4294967296) : It (xss, ()) = some (xss.flatten, ()) := by
 rw [XU, K5]
 have e := CQ (step := DX) (fun i (a : Nat) => (xss, (a : Int), xss, AQ xss, (i : Int), ())) xss (fun x a => .inl (a + x.length)) (fun a => .inl (xss, (a : Int), ())) (fun i a => a = (xss.take i).flatten.length) (by omega)
  (fun i x a hi hx ha => by
   refine ⟨fun m' h' => ?_, fun r h' => by cases h'⟩
   cases h'
   have h1 := G6 hx
   have h2 := JG xss (i + 1)
   rw [h1, List.length_append] at h2
   rw [DX]
   simp only [AP]
   rw [AL, decide_eq_true hi]
   simp only [AY hx]
   rw [wrap_add (by omega), AM (by omega), Aj, decide_eq_false (by omega)]
   exact ⟨rfl, by rw [h1, List.length_append, ha]⟩)
  (fun a _ => by rw [DX, AP, AL, decide_eq_false (by omega)]) 0 rfl
 have e' : AR DX many (xss, (0 : Int), xss, AQ xss, (0 : Int), ()) = _ := e
 rw [e', BB]
 have hsum : ∀ (l : List (List Int)) (a : Nat), l.foldl (fun a x => a + x.length) a = a + l.flatten.length := by
  intro l
  induction l with
  | nil => intro a; rfl
  | cons x l ih => intro a; rw [List.foldl_cons, ih, List.flatten_cons, List.length_append]; omega
 rw [hsum, Nat.zero_add]
 simp only [AQK _ h]
 have g := CQ (step := DW) (fun i (a : List Int) => (a, xss, AQ xss, (i : Int), ())) xss (fun x a => .inl (a ++ x)) (fun a => .inl (a, ())) (fun i a => a = (xss.take i).flatten) (by omega)
  (fun i x a hi hx ha => by
   refine ⟨fun m' h' => ?_, fun r h' => by cases h'⟩
   cases h'
   have h1 := G6 hx
   have h2 := JG xss (i + 1)
   rw [h1, List.length_append] at h2
   rw [DW]
   simp only [AP]
   rw [AL, decide_eq_true hi]
   simp only [AY hx]
   rw [AM (by omega), B6 (by rw [ha]; omega)]
   exact ⟨rfl, by rw [h1, ha]⟩)
  (fun a _ => by rw [DW, AP, AL, decide_eq_false (by omega)]) [] rfl
 have g' : AR DW many ([], xss, AQ xss, (0 : Int), ()) = _ := g
 rw [g', BB]
 have hcat : ∀ (l : List (List Int)) (a : List Int), l.foldl (fun a x => a ++ x) a = a ++ l.flatten := by
  intro l
  induction l with
  | nil => intro a; simp
  | cons x l ih => intro a; rw [List.foldl_cons, ih, List.flatten_cons, List.append_assoc]
 rw [hcat]
 rfl
theorem S8 (xs : List Int) (k : Nat) (hk : k ≤ xs.length) (hs : xs.length < 2147483648) : PI (xs, (k : Int), ()) = some (rot xs k, ()) := by
 rw [Y4, M1]
 simp only [AFA hk, ARp hk]
 rw [RY _ (by simp) (by simp; omega)]
 simp [rot]
def Bf (xs : List Int) (t : Int) : List Int := rot xs (xs.findIdx (fun x => decide (x = t)))
def ADW (xs : List Int) (t : Int) : List Int × Bool × Unit := if Rt xs ∧ t ∈ xs then (Bf xs t, true, ()) else ([], false, ())
theorem VU {xs : List Int} {t : Int} (h : t ∈ xs) : ∃ a b, xs = a ++ t :: b ∧ t ∉ a ∧ Bf xs t = t :: b ++ a := by
 obtain ⟨k, e, hk, hg, h1, h2⟩ := ASd h
 rw [pos, if_pos h] at e
 have e' : xs.findIdx (fun x => decide (x = t)) = k := by omega
 refine ⟨_, _, h1, h2, ?_⟩
 rw [Bf, e', rot]
 congr 1
 rw [List.drop_eq_getElem_cons hk]
 congr 1
 simpa [hk] using hg
theorem APC (xs : List Int) (t : Int) : Zo (xs, t, ()) = some (ADW xs t) := by
 rw [AF6, Sh, Zv, Ng, ADW]
 simp only [L6]
 by_cases hr : Rt xs
 ·have hl := hr.1
  simp only [hr, decide_true, Bool.not_true, true_and]
  have e : AR Df many (xs, [], [t], AQ [t], (0 : Int), ()) = some (.inl ([pos xs t], ())) := by
   have g := CQ (step := Df) (fun i (a : List Int) => (xs, a, [t], AQ [t], (i : Int), ())) [t] (fun x a => .inl (a ++ [pos xs x])) (fun a => .inl (a, ())) (fun i a => a.length = i) (by simp)
    (fun i x a hi hx ha => by
     refine ⟨fun m' h' => ?_, fun r h' => by cases h'⟩
     cases h'
     rw [Df, AP, AL, decide_eq_true hi]
     simp only [AY hx, MQ xs x (by omega)]
     simp only [List.length_cons, List.length_nil] at hi
     rw [AM (by omega), B6 (by simp only [AP, List.length_cons, List.length_nil]; omega)]
     exact ⟨rfl, by simp [ha]⟩)
    (fun a _ => by rw [Df, AP, AL, decide_eq_false (by omega)]) [] rfl
   have g' : AR Df many (xs, [], [t], AQ [t], (0 : Int), ()) = _ := g
   rw [g']; rfl
  rw [e]
  simp only [Ha [pos xs t] (-1) (by simp)]
  by_cases h : t ∈ xs
  ·have hk : xs.findIdx (fun x => decide (x = t)) < xs.length := List.findIdx_lt_length.2 ⟨t, h, by simp⟩
   rw [pos, if_pos h, if_pos h, Bf]
   generalize xs.findIdx (fun x => decide (x = t)) = k at *
   rw [decide_eq_false (by simp)]
   have i0 : idx [(k : Int)] (0 : Int) = some (k : Int) := by rw [N4]; rfl
   have d0 : AT [(k : Int)] 0 (0 : Int) = (k : Int) := rfl
   simp only [Bool.not_false, Bool.not_true, i0, d0, S8 xs k (by omega) (by omega)]
  ·rw [AM1 h, if_neg h]
   simp
 ·simp [hr]
def Gl : List Int → Int
 | [] => 0
 | x :: xs => xs.foldl (fun a y => DT a y) x
theorem ALX : ∀ (xs : List Int) (a : Int), (xs.foldl (fun a y => DT a y) a) ≤ a ∧ (∀ x ∈ xs, xs.foldl (fun a y => DT a y) a ≤ x) ∧ (xs.foldl (fun a y => DT a y) a = a ∨ xs.foldl (fun a y => DT a y) a ∈ xs) := by
 intro xs
 induction xs with
 | nil => intro a; simp
 | cons x xs ih =>
  intro a
  rw [List.foldl_cons]
  obtain ⟨h1, h2, h3⟩ := ih (DT a x)
  have hm : DT a x ≤ a ∧ DT a x ≤ x ∧ (DT a x = a ∨ DT a x = x) := by
   rw [DT]; split <;> omega
  refine ⟨by omega, fun y hy => ?_, ?_⟩
  ·rcases List.mem_cons.1 hy with rfl | hy
   ·omega
   ·exact h2 y hy
  ·rcases h3 with h | h
   ·rcases hm.2.2 with e | e
    ·exact .inl (by rw [h, e])
    ·exact .inr (by rw [h, e]; simp)
   ·exact .inr (List.mem_cons_of_mem _ h)
theorem EP {xs : List Int} (h : xs ≠ []) : Gl xs ∈ xs ∧ ∀ x ∈ xs, Gl xs ≤ x := by
 cases xs with
 | nil => exact absurd rfl h
 | cons x xs =>
  obtain ⟨h1, h2, h3⟩ := ALX xs x
  refine ⟨?_, fun y hy => ?_⟩
  ·rcases h3 with h | h
   ·rw [Gl, h]; simp
   ·exact List.mem_cons_of_mem _ h
  ·rcases List.mem_cons.1 hy with rfl | hy
   ·exact h1
   ·exact h2 y hy
theorem AVj {xs : List Int} {m : Int} (h1 : m ∈ xs) (h2 : ∀ x ∈ xs, m ≤ x) : Gl xs = m := by
 obtain ⟨g1, g2⟩ := EP (List.ne_nil_of_mem h1)
 have := g2 m h1
 have := h2 _ g1
 omega
theorem AGw (xs : List Int) (h : xs ≠ []) (hs : xs.length < 9223372036854775808) : APl (xs, ()) = some (Gl xs, ()) := by
 cases xs with
 | nil => exact absurd rfl h
 | cons x xs =>
  rw [ANK, ACo, AP, Aj, decide_eq_false (by simp only [List.length_cons]; omega)]
  have i0 : idx (x :: xs) (0 : Int) = some x := by rw [N4]; rfl
  simp only [i0]
  simp only [List.length_cons] at hs
  have e := CQ (step := Ie) (fun i (a : Int) => (x :: xs, a, ((i + 1 : Nat) : Int), ())) xs (fun y a => .inl (DT a y)) (fun a => .inl (a, ())) (fun _ _ => True) (by omega)
   (fun i y a hi hy _ => by
    refine ⟨fun m' h' => ?_, fun r h' => by cases h'⟩
    cases h'
    rw [Ie, AP, AL, decide_eq_true (by simp only [List.length_cons]; omega)]
    simp only [AY (xs := x :: xs) (n := i + 1) (by simpa using hy)]
    rw [AM (by omega)]
    exact ⟨rfl, trivial⟩)
   (fun a _ => by rw [Ie, AP, AL, decide_eq_false (by simp)]) x trivial
  have e' : AR Ie many (x :: xs, x, (1 : Int), ()) = _ := e
  rw [e', BB]
  rfl
def plain (xs : List Int) : List Int := if Rt xs ∧ xs ≠ [] then Bf xs (Gl xs) else []
theorem AJb (xs : List Int) : VR (xs, ()) = some (plain xs, ()) := by
 rw [Zn, Nc, plain]
 simp only [L6]
 by_cases hr : Rt xs
 ·have hl := hr.1
  simp only [hr, decide_true, Bool.not_true, true_and]
  by_cases h : xs = []
  ·subst h; simp [AP, HS]
  ·have hp : 0 < xs.length := List.length_pos_iff.2 h
   rw [AP, Av, decide_eq_false (by omega)]
   have hm := (EP h).1
   have hk : xs.findIdx (fun x => decide (x = Gl xs)) < xs.length := List.findIdx_lt_length.2 ⟨_, hm, by simp⟩
   simp only [AGw xs h (by omega), MQ xs _ (show xs.length < 9223372036854775808 by omega)]
   rw [pos, if_pos hm, if_pos (by simpa using h), Bf]
   simp only [S8 xs _ (Nat.le_of_lt hk) (by omega)]
 ·simp [hr]
theorem Jm {xs : List Int} (hr : Rt xs) (h : xs ≠ []) : ∃ a b, xs = a ++ Gl xs :: b ∧ plain xs = Gl xs :: b ++ a := by
 obtain ⟨a, b, h1, _, h2⟩ := VU (EP h).1
 exact ⟨a, b, h1, by rw [plain, if_pos ⟨hr, h⟩, h2]⟩
end Go.Pev.Pl
end
section
namespace Go.Pev.Pl
open Tok
def TI (n : Int) (xs : List Int) : Prop := ∃ L, xs = L.map (Ef n) ∧ (∀ t ∈ L, okT n t) ∧ T L
noncomputable instance (n : Int) (xs : List Int) : Decidable (TI n xs) := Classical.propDecidable _
abbrev AML := List Int × List (Int × Int) × List (Int × Int)
abbrev AWo := (Bool × Unit) ⊕ (List Int × List (Int × Int) × List (Int × Int) × Unit) ⊕ Unit
def goF (n x : Int) (s : AML) : AML ⊕ AWo :=
 match Dn n x with
 | none => .inr (.inl (false, ()))
 | some t => match Tok.step (s.1, A1 s.2.1) t with
  | none => .inr (.inl (false, ()))
  | some s' => match t with
   | .ver v => .inl (s'.1, s.2.1, Ai s.2.2 v (IntKind.wrap .i64 (((Ac s.2.2 v).getD (0 : Int)) + (1 : Int))))
   | .arc _ v => .inl (s'.1, if v ∈ A1 s.2.1 then s.2.1 else Ai s.2.1 v 1, s.2.2)
def one (came : List (Int × Int)) : Prop := ∀ k, (0 < (Ac came k).getD (0 : Int)) ↔ k ∈ A1 came
theorem APb {came : List (Int × Int)} (h : one came) (v : Int) : one (Ai came v 1) := by
 intro k
 rw [Fa, Dw]
 by_cases e : k = v
 ·simp [e]
 ·simp only [e, if_false, false_or]; exact h k
theorem AQP (n : Int) (xs : List Int) (i : Nat) (x : Int) (hx : xs[i]? = some x) (hi : i < xs.length) (hl : xs.length < 4294967296) (hxr : -9223372036854775808 ≤ x ∧ x ≤ 9223372036854775807)
  (w : Int) (r : List Int) (came met : List (Int × Int)) (hr : r.length < 4294967295) (hc : one came) (hsub : ∀ y ∈ w :: r, y ∈ A1 came) :
  G5 (n, (w :: r).reverse, came, met, xs, AQ xs, (i : Int), ()) = match goF n x (w :: r, came, met) with
   | .inl s => some (.inl (n, s.1.reverse, s.2.1, s.2.2, xs, AQ xs, ((i + 1 : Nat) : Int), ()))
   | .inr y => some (.inr y) := by
 have hd : AQ ((w :: r).reverse) = ((r.length + 1 : Nat) : Int) := by simp [AP]
 have e1 : IntKind.wrap .i64 (((r.length + 1 : Nat) : Int) - 1) = (r.length : Int) := by rw [Ap (by omega)]; rfl
 have i1 : idx ((w :: r).reverse) (r.length : Int) = some w := by rw [ADE]; simp
 have g1 : AT ((w :: r).reverse) (AG (r.length : Int)) (0 : Int) = w := by rw [HY]; simp
 have f1 : ∀ v : Int, fits (AQ ((w :: r).reverse) + AQ [v]) = true := fun v => B6 (by rw [hd, AP]; simp only [List.length_cons, List.length_nil]; omega)
 have ap : ∀ v : Int, BX ((w :: r).reverse) [v] = (v :: w :: r).reverse := fun v => by simp [HZ]
 rw [G5, AP, AL, decide_eq_true hi]
 rw [AP] at hd
 simp only [AY hx, AIV n x hxr, goF]
 cases ht : Dn n x with
 | none => rfl
 | some t =>
  cases t with
  | ver v =>
   simp only [AId, Bool.not_true, Bool.not_false, AP, hd, e1, i1, g1, Av, Tok.step]
   rw [AM (by omega)]
   by_cases h : w = v
   ·simp [h]
   ·simp [h]
  | arc u v =>
   simp only [AId, Bool.not_true, AP, hd, e1, i1, g1, Av, Tok.step]
   rw [AM (by omega)]
   by_cases h : w = u
   ·subst h
    rw [decide_eq_true rfl]
    simp only [Bool.not_true]
    cases r with
    | nil =>
     have z : ilt (0 : Int) ((([] : List Int).length : Nat) : Int) = false := by rw [Aj]; rfl
     simp only [z]
     rw [Aj]
     have hcv := hc v
     by_cases hv : v ∈ A1 came
     ·rw [decide_eq_true (hcv.2 hv)]
      simp [hv]
     ·rw [decide_eq_false (fun h => hv (hcv.1 h))]
      have f2 := f1 v
      rw [AP, hd] at f2
      have hz : (Ac came v).getD (0 : Int) = 0 := by rw [(RK came v).2 hv]; rfl
      have w1 : IntKind.wrap .i64 ((0 : Int) + 1) = 1 := by rw [Ah (by omega)]; rfl
      rw [AP] at f2
      simp only [f2, ap v, hz, w1, hv, if_false, if_true]
    | cons p r =>
     have z : ilt (0 : Int) (((p :: r).length : Nat) : Int) = true := by rw [Aj, decide_eq_true (by simp only [List.length_cons]; omega)]
     have e2 : IntKind.wrap .i64 ((((p :: r).length : Nat) : Int) - 1) = (r.length : Int) := by
      rw [Ap (by simp only [List.length_cons] at hr ⊢; omega)]; rfl
     have i2 : idx ((w :: p :: r).reverse) (r.length : Int) = some p := by rw [ADE]; simp
     have g2 : AT ((w :: p :: r).reverse) (AG (r.length : Int)) (0 : Int) = p := by rw [HY]; simp
     simp only [z, e2, i2, g2]
     by_cases hp : p = v
     ·subst hp
      rw [decide_eq_true rfl]
      have hmem : p ∈ A1 came := hsub p (by simp)
      have s1 : HL ((w :: p :: r).reverse) (0 : Int) (((p :: r).length : Nat) : Int) = some ((p :: r).reverse) := by
       rw [ARp (by simp)]
       rw [List.reverse_cons, List.take_left' (by simp)]
      have t1 : Cz (AG (((p :: r).reverse.length : Nat) : Int)) ((w :: p :: r).reverse) = (p :: r).reverse := by
       rw [Cz, AUF, List.reverse_cons (a := w), List.take_left' rfl]
      simp only [s1, t1, hmem, if_true]
     ·rw [decide_eq_false hp]
      simp only [hp, if_false]
      rw [Aj]
      have hcv := hc v
      by_cases hv : v ∈ A1 came
      ·rw [decide_eq_true (hcv.2 hv)]
       simp [hv]
      ·rw [decide_eq_false (fun h => hv (hcv.1 h))]
       have f2 := f1 v
       rw [AP, hd] at f2
       have hz : (Ac came v).getD (0 : Int) = 0 := by rw [(RK came v).2 hv]; rfl
       have w1 : IntKind.wrap .i64 ((0 : Int) + 1) = 1 := by rw [Ah (by omega)]; rfl
       rw [AP] at f2
       simp only [f2, ap v, hz, w1, hv, if_false, if_true]
   ·rw [decide_eq_false h]
    simp [h]
end Go.Pev.Pl
end
section
namespace Go.Pev.Pl
open Tok
theorem Eu {a b : List Int} (ha : a.Nodup) (h : ∀ x ∈ a, x ∈ b) : a.length ≤ b.length := by
 induction a generalizing b with
 | nil => simp
 | cons x a ih =>
  obtain ⟨b1, b2, rfl⟩ := List.append_of_mem (h x (by simp))
  rw [List.nodup_cons] at ha
  have := ih (b := b1 ++ b2) ha.2 fun y hy => by
   have := h y (List.mem_cons_of_mem _ hy)
   simp only [List.mem_append, List.mem_cons] at this ⊢
   rcases this with h | rfl | h
   ·exact .inl h
   ·exact absurd hy ha.1
   ·exact .inr h
  simp only [List.length_append, List.length_cons] at this ⊢
  omega
theorem ACl {a b : List Int} (ha : a.Nodup) (h : ∀ x ∈ a, x ∈ b) (hl : b.length ≤ a.length) : ∀ x ∈ b, x ∈ a := by
 intro x hx
 refine Classical.byContradiction fun hn => ?_
 have := Eu (a := x :: a) (b := b) (List.nodup_cons.2 ⟨hn, ha⟩) fun y hy => by
  rcases List.mem_cons.1 hy with rfl | hy
  ·exact hx
  ·exact h y hy
 simp only [List.length_cons] at this
 omega
theorem Tc {way c c2 : List Int} (h : ∀ x, x ∈ c ↔ x ∈ c2) (t : Tok) :
  (Tok.step (way, c) t = none ↔ Tok.step (way, c2) t = none) ∧ ∀ w1 c1, Tok.step (way, c) t = some (w1, c1) → ∃ c1', Tok.step (way, c2) t = some (w1, c1') ∧ ∀ x, x ∈ c1 ↔ x ∈ c1' := by
 cases t with
 | ver v =>
  cases way with
  | nil => simp [Tok.step]
  | cons w r =>
   by_cases e : w = v
   ·simp only [Tok.step, e, if_true]
    exact ⟨by simp, fun w1 c1 hh => by cases hh; exact ⟨c2, rfl, h⟩⟩
   ·simp [Tok.step, e]
 | arc u v =>
  cases way with
  | nil => simp [Tok.step]
  | cons w r =>
   by_cases e : w = u
   ·cases r with
    | nil =>
     by_cases hv : v ∈ c
     ·simp [Tok.step, e, hv, (h v).1 hv]
     ·have hv2 : v ∉ c2 := fun q => hv ((h v).2 q)
      simp only [Tok.step, e, if_true, hv, hv2, if_false]
      exact ⟨by simp, fun w1 c1 hh => by cases hh; exact ⟨v :: c2, rfl, fun x => by simp [h]⟩⟩
    | cons p r =>
     by_cases e2 : p = v
     ·simp only [Tok.step, e, if_true, e2]
      exact ⟨by simp, fun w1 c1 hh => by cases hh; exact ⟨c2, rfl, h⟩⟩
     ·by_cases hv : v ∈ c
      ·simp [Tok.step, e, e2, hv, (h v).1 hv]
      ·have hv2 : v ∉ c2 := fun q => hv ((h v).2 q)
       simp only [Tok.step, e, if_true, e2, hv, hv2, if_false]
       exact ⟨by simp, fun w1 c1 hh => by cases hh; exact ⟨v :: c2, rfl, fun x => by simp [h]⟩⟩
   ·simp [Tok.step, e]
structure GI (s : AML) : Prop where
 ne : s.1 ≠ []
 one : one s.2.1
 sub : ∀ y ∈ s.1, y ∈ A1 s.2.1
 nc : (A1 s.2.1).Nodup
 nm : (A1 s.2.2).Nodup
theorem ANg {n x : Int} {s s' : AML} (hi : GI s) (h : goF n x s = .inl s') :
  GI s' ∧ s'.1.length ≤ s.1.length + 1 ∧ ∃ t c1, Dn n x = some t ∧ Tok.step (s.1, A1 s.2.1) t = some (s'.1, c1) ∧ (∀ x, x ∈ c1 ↔ x ∈ A1 s'.2.1) ∧ (∀ y, y ∈ A1 s'.2.2 ↔ y ∈ A1 s.2.2 ∨ Tok.ver y = t) := by
 rw [goF] at h
 cases ht : Dn n x with
 | none => rw [ht] at h; cases h
 | some t =>
  rw [ht] at h
  simp only at h
  cases hs : Tok.step (s.1, A1 s.2.1) t with
  | none => rw [hs] at h; cases h
  | some q =>
   obtain ⟨w1, c1⟩ := q
   rw [hs] at h
   rcases BZ hs with ⟨v, r, rfl, hw, e⟩ | ⟨u, v, r, rfl, hw, e⟩ | ⟨u, v, r, rfl, hw, hh, hn, e⟩
   ·cases h
    cases e
    refine ⟨⟨hi.ne, hi.one, hi.sub, hi.nc, Hm hi.nm _ _⟩, by simp, _, _, rfl, hs, fun x => Iff.rfl, fun y => ?_⟩
    rw [Dw]
    simp [or_comm]
   ·cases h
    cases e
    simp only at hw
    have hv : v ∈ A1 s.2.1 := hi.sub v (by rw [hw]; simp)
    simp only [hv, if_true]
    refine ⟨⟨by simp, hi.one, fun y hy => hi.sub y (by rw [hw]; exact List.mem_cons_of_mem _ hy), hi.nc, hi.nm⟩, by rw [hw]; simp, _, _, rfl, hs, fun x => Iff.rfl, fun y => by simp⟩
   ·cases h
    cases e
    simp only at hw hn
    simp only [hn, if_false]
    refine ⟨⟨by simp, APb hi.one v, fun y hy => ?_, Hm hi.nc _ _, hi.nm⟩, by rw [hw]; simp, _, _, rfl, hs, fun x => ?_, fun y => by simp⟩
    ·rw [Dw]
     rcases List.mem_cons.1 hy with rfl | hy
     ·exact .inl rfl
     ·exact .inr (hi.sub y (by rw [hw]; exact hy))
    ·rw [Dw, List.mem_cons]
def AHQ (s : AML) : AWo := .inr (.inl (s.1.reverse, s.2.1, s.2.2, ()))
theorem AQO (n : Int) : ∀ (xs : List Int) (s : AML) (c : List Int), GI s → (∀ x, x ∈ c ↔ x ∈ A1 s.2.1) →
  (∃ L s' c', xs = L.map (Ef n) ∧ (∀ t ∈ L, okT n t) ∧ run (s.1, c) L = some (s'.1, c') ∧ walk (goF n) AHQ xs s = AHQ s' ∧ GI s' ∧ (∀ x, x ∈ c' ↔ x ∈ A1 s'.2.1) ∧ (∀ x, x ∈ A1 s'.2.2 ↔ x ∈ A1 s.2.2 ∨ Tok.ver x ∈ L)) ∨
  (walk (goF n) AHQ xs s = .inl (false, ()) ∧ ∀ L, xs = L.map (Ef n) → (∀ t ∈ L, okT n t) → run (s.1, c) L = none) := by
 intro xs
 induction xs with
 | nil => intro s c hi hc; exact .inl ⟨[], s, c, rfl, by simp, rfl, rfl, hi, hc, by simp⟩
 | cons x xs ih =>
  intro s c hi hc
  rw [walk]
  have bad : ∀ {t}, Dn n x = some t → Tok.step (s.1, A1 s.2.1) t = none → ∀ L, x :: xs = L.map (Ef n) → (∀ t ∈ L, okT n t) → run (s.1, c) L = none := by
   intro t ht hs L hL hok
   cases L with
   | nil => cases hL
   | cons t' L =>
    simp only [List.map_cons, List.cons.injEq] at hL
    have h1 := ED (hok t' (by simp))
    rw [← hL.1, ht] at h1
    cases h1
    rw [Al, ((Tc hc t).1).2 hs]
    rfl
  cases hg : goF n x s with
  | inr r =>
   simp only
   have hr : r = .inl (false, ()) ∧ ∀ L, x :: xs = L.map (Ef n) → (∀ t ∈ L, okT n t) → run (s.1, c) L = none := by
    rw [goF] at hg
    cases ht : Dn n x with
    | none =>
     rw [ht] at hg
     cases hg
     refine ⟨rfl, fun L hL hok => ?_⟩
     cases L with
     | nil => cases hL
     | cons t' L =>
      simp only [List.map_cons, List.cons.injEq] at hL
      have h1 := ED (hok t' (by simp))
      rw [← hL.1, ht] at h1
      cases h1
    | some t =>
     rw [ht] at hg
     simp only at hg
     cases hs : Tok.step (s.1, A1 s.2.1) t with
     | none => rw [hs] at hg; cases hg; exact ⟨rfl, bad ht hs⟩
     | some q =>
      rw [hs] at hg
      cases t <;> cases hg
   rw [hr.1]
   exact .inr ⟨rfl, hr.2⟩
  | inl s' =>
   simp only
   obtain ⟨hi', _, t, c1, ht, hs, hcc, hm⟩ := ANg hi hg
   obtain ⟨c1', hs', hcc'⟩ := (Tc (c := A1 s.2.1) (c2 := c) (fun x => (hc x).symm) t).2 _ _ hs
   obtain ⟨g1, g2⟩ := AQg ht
   rcases ih s' c1' hi' (fun x => (hcc' x).symm.trans (hcc x)) with ⟨L, s2, c2, a1, a2, a3, a4, a5, a6, a7⟩ | ⟨a1, a2⟩
   ·refine .inl ⟨t :: L, s2, c2, by simp [g2, a1], ?_, by rw [Al, hs']; exact a3, a4, a5, a6, fun y => ?_⟩
    ·intro y hy
     rcases List.mem_cons.1 hy with rfl | hy
     ·exact g1
     ·exact a2 y hy
    ·rw [a7, hm, List.mem_cons, or_assoc]
   ·refine .inr ⟨a1, fun L hL hok => ?_⟩
    cases L with
    | nil => cases hL
    | cons t' L =>
     simp only [List.map_cons, List.cons.injEq] at hL
     have h1 := ED (hok t' (by simp))
     rw [← hL.1, ht] at h1
     cases h1
     rw [Al, hs']
     exact a2 L hL.2 fun y hy => hok y (List.mem_cons_of_mem _ hy)
theorem AJY : ∀ {l : List Tok} {s s' : List Int × List Int}, run s l = some s' → s'.1.getLast? = s.1.getLast? := by
 intro l
 induction l with
 | nil => intro s s' h; cases h; rfl
 | cons t l ih =>
  intro s s' h
  rw [Al, Option.bind_eq_some_iff] at h
  obtain ⟨s1, h1, h2⟩ := h
  rw [ih h2]
  rcases BZ h1 with ⟨v, r, rfl, hw, rfl⟩ | ⟨u, v, r, rfl, hw, rfl⟩ | ⟨u, v, r, rfl, hw, hh, hn, rfl⟩
  ·rfl
  ·rw [hw, List.getLast?_cons_cons]
  ·rw [hw, List.getLast?_cons_cons]
theorem ASP : ∀ {l : List Tok} {s s' : List Int × List Int}, run s l = some s' → Tok.Inv s → ∀ x, Tok.ver x ∈ l → x ∈ s'.2 := by
 intro l
 induction l with
 | nil => intro s s' _ _ x hx; cases hx
 | cons t l ih =>
  intro s s' h hi x hx
  rw [Al, Option.bind_eq_some_iff] at h
  obtain ⟨s1, h1, h2⟩ := h
  obtain ⟨i1, i2, i3⟩ := Tb h1 hi
  rcases List.mem_cons.1 hx with rfl | hx
  ·have := (Gs h2 i1).2.1
   refine this x (i1.2 x ?_)
   simp only [st] at i3
   exact List.mem_of_head? i3
  ·exact ih h2 i1 x hx
theorem APq {n : Int} {L : List Tok} (h : (L.map (Ef n)).Nodup) : L.Nodup := by
 rw [List.Nodup, List.pairwise_map] at h
 exact h.imp fun h e => h (by rw [e])
theorem ANx {n x : Int} {xs : List Int} (h : TI n (x :: xs)) (hm : Gl (x :: xs) = x) : In n x := by
 obtain ⟨L, h1, h2, h3⟩ := h
 obtain ⟨v, r, hr⟩ := h3.AHr
 have hv : Tok.ver v ∈ L := (hr.mem _).2 (by simp)
 have hvx : v ∈ x :: xs := by rw [h1]; exact List.mem_map.2 ⟨_, hv, rfl⟩
 have h4 := (EP (xs := x :: xs) (by simp)).2 v hvx
 rw [hm] at h4
 have h5 := (h2 _ hv).2.2.2
 cases L with
 | nil => cases h1
 | cons t L =>
  simp only [List.map_cons, List.cons.injEq] at h1
  have h6 := h2 t (by simp)
  cases t with
  | ver w => rw [h1.1]; exact h6
  | arc p q =>
   have := (Sw h6.1 h6.2.1).1
   have e : x = n * (p + 1) + q := h1.1
   omega
theorem ATn (n : Int) (xs : List Int) (h0 : xs ≠ []) (hs : xs.length < 2147483648) (hr : ∀ x ∈ xs, -9223372036854775808 ≤ x ∧ x ≤ 9223372036854775807) (hn : xs.Nodup) (hm : ∀ x, xs.head? = some x → Gl xs = x) :
  ATq (n, xs, ()) = some (decide (TI n xs), ()) := by
 cases xs with
 | nil => exact absurd rfl h0
 | cons x0 tl =>
  rw [ANf, ADR]
  have i0 : idx (x0 :: tl) (0 : Int) = some x0 := by rw [N4]; rfl
  simp only [i0, SZ]
  by_cases hin : In n x0
  ·rw [decide_eq_true hin]
   simp only [Bool.not_true]
   have hS : GI ([x0], Ai [] x0 1, []) := by
    refine ⟨by simp, fun k => ?_, fun y hy => ?_, ?_, by simp [A1]⟩
    ·have : Ac (Ai ([] : List (Int × Int)) x0 1) k = if k = x0 then some 1 else none := by rw [Fa]; rfl
     rw [this]
     by_cases e : k = x0 <;> simp [e, Ai, A1]
    ·simp at hy; subst hy; simp [Ai, A1]
    ·simp [Ai, A1]
   have e := CQ (step := G5) (fun i (s : AML) => (n, s.1.reverse, s.2.1, s.2.2, x0 :: tl, AQ (x0 :: tl), (i : Int), ())) (x0 :: tl) (goF n) AHQ (fun i s => GI s ∧ s.1.length ≤ i + 1) (by omega)
    (fun i x s hi hx ⟨hI, hlen⟩ => by
     obtain ⟨way, came, met⟩ := s
     cases way with
     | nil => exact absurd rfl hI.ne
     | cons w r =>
      have hst := AQP n (x0 :: tl) i x hx hi (by omega) (hr x (List.mem_of_getElem? hx)) w r came met (by simp only [List.length_cons] at hlen hi hs; omega) hI.one hI.sub
      refine ⟨fun s' h' => ?_, fun y h' => ?_⟩
      ·rw [h'] at hst
       obtain ⟨g1, g2, _⟩ := ANg hI h'
       refine ⟨hst, g1, ?_⟩
       simp only at g2 hlen
       omega
      ·rw [h'] at hst
       exact hst)
    (fun s _ => by rw [G5, AP, AL, decide_eq_false (by omega)]; rfl) ([x0], Ai [] x0 1, []) ⟨hS, by simp⟩
   have e' : AR G5 many (n, [x0], Ai [] x0 1, [], x0 :: tl, AQ (x0 :: tl), (0 : Int), ()) = _ := e
   rw [e']
   have hk0 : A1 (Ai ([] : List (Int × Int)) x0 1) = [x0] := rfl
   rcases AQO n (x0 :: tl) ([x0], Ai [] x0 1, []) [x0] hS (fun x => by rw [hk0]) with ⟨L, s', c', a1, a2, a3, a4, a5, a6, a7⟩ | ⟨a1, a2⟩
   ·rw [a4]
    obtain ⟨t, L', rfl⟩ : ∃ t L', L = t :: L' := by cases L with
     | nil => cases a1
     | cons t L' => exact ⟨t, L', rfl⟩
    have ht : t = .ver x0 := by
     have h1 := ED (a2 t (by simp))
     simp only [List.map_cons, List.cons.injEq] at a1
     rw [← a1.1, Dn, if_pos hin] at h1
     exact (Option.some.inj h1).symm
    subst ht
    have hLn : (Tok.ver x0 :: L').Nodup := APq (n := n) (by rw [← a1]; exact hn)
    have hbot := AJY a3
    have hvs := ASP a3 (LC x0)
    have hk : (A1 s'.2.2).length ≤ (A1 s'.2.1).length := Eu a5.nm fun x hx => by
     have := (a7 x).1 hx
     simp only [A1, List.map_nil, List.not_mem_nil, false_or] at this
     exact (a6 x).1 (hvs x this)
    have hiff : (s'.1.length = 1 ∧ (A1 s'.2.2).length = (A1 s'.2.1).length) ↔ TI n (x0 :: tl) := by
     constructor
     ·rintro ⟨l1, l2⟩
      obtain ⟨w, hw⟩ := List.length_eq_one_iff.1 l1
      rw [hw] at hbot a3
      simp at hbot
      subst hbot
      refine ⟨_, a1, a2, Tok.Ay.toT ⟨w, L', c', rfl, a3, fun x hx => ?_⟩ hLn⟩
      have h1 := ACl a5.nm (fun x hx => by
       have := (a7 x).1 hx
       simp only [A1, List.map_nil, List.not_mem_nil, false_or] at this
       exact (a6 x).1 (hvs x this)) (by omega) x ((a6 x).1 hx)
      have := (a7 x).1 h1
      simpa [A1] using this
     ·rintro ⟨K, k1, k2, k3⟩
      have hKL : K = Tok.ver x0 :: L' := by
       have : ∀ (A B : List Tok), A.map (Ef n) = B.map (Ef n) → (∀ t ∈ A, okT n t) → (∀ t ∈ B, okT n t) → A = B := by
        intro A
        induction A with
        | nil => intro B h _ _; cases B with
         | nil => rfl
         | cons b B => cases h
        | cons a A ih =>
         intro B h hA hB
         cases B with
         | nil => cases h
         | cons b B =>
          simp only [List.map_cons, List.cons.injEq] at h
          rw [OM (hA a (by simp)) (hB b (by simp)) h.1, ih B h.2 (fun t ht => hA t (by simp [ht])) fun t ht => hB t (by simp [ht])]
       exact this _ _ (by rw [← k1, a1]) k2 a2
      subst hKL
      obtain ⟨r, l', c, q1, q2, q3⟩ := k3.ABB
      cases q1
      rw [a3] at q2
      cases hs' : s'.1 with
      | nil => rw [hs'] at q2; cases q2
      | cons w r' =>
       rw [hs'] at q2
       cases q2
       refine ⟨rfl, ?_⟩
       have := Eu a5.nc (b := A1 s'.2.2) fun x hx => (a7 x).2 (.inr (q3 x ((a6 x).2 hx)))
       omega
    simp only [AHQ, Av, AP, List.length_reverse]
    rw [QD, QD] at hiff
    by_cases l1 : s'.1.length = 1
    ·rw [decide_eq_true (show (s'.1.length : Int) = 1 by omega)]
     simp only [l1, true_and] at hiff
     by_cases l2 : s'.2.2.length = s'.2.1.length
     ·rw [decide_eq_true (show (s'.2.2.length : Int) = (s'.2.1.length : Int) by omega), decide_eq_true (hiff.1 l2)]
     ·rw [decide_eq_false (show ¬ (s'.2.2.length : Int) = (s'.2.1.length : Int) by omega), decide_eq_false (fun h => l2 (hiff.2 h))]
    ·rw [decide_eq_false (show ¬ (s'.1.length : Int) = 1 by omega), decide_eq_false (fun h => l1 (hiff.2 h).1)]
   ·rw [a1]
    have : ¬ TI n (x0 :: tl) := by
     rintro ⟨K, k1, k2, k3⟩
     obtain ⟨r, l', c, q1, q2, q3⟩ : Tok.Ay K := by
      obtain ⟨t, L', rfl⟩ : ∃ t L', K = t :: L' := by cases K with
       | nil => cases k1
       | cons t L' => exact ⟨t, L', rfl⟩
      have h1 := ED (k2 t (by simp))
      simp only [List.map_cons, List.cons.injEq] at k1
      rw [← k1.1, Dn, if_pos hin] at h1
      cases h1
      exact k3.ABB
     have hr0 : r = x0 := by
      subst q1
      simp only [List.map_cons, List.cons.injEq] at k1
      exact k1.1.symm
     subst hr0
     have := a2 K k1 k2
     simp only at this
     rw [q2] at this
     cases this
    simp [this]
  ·rw [decide_eq_false hin]
   have : ¬ TI n (x0 :: tl) := fun h => hin (ANx h (hm x0 rfl))
   simp [this]
end Go.Pev.Pl
end
end
section
namespace Go.Pev.Pl.Tok
theorem AWH {v : Int} {p : List Tok} {c : List Int} (h : run ([v], [v]) p = some ([v], c)) (hc : ∀ x ∈ c, Tok.ver x ∈ p) (hn : p.Nodup) : T p := by
 cases p with
 | nil =>
  cases h
  have := hc v (by simp)
  cases this
 | cons t p =>
  have h' := h
  rw [Al, Option.bind_eq_some_iff] at h'
  obtain ⟨s1, h1, h2⟩ := h'
  rcases BZ h1 with ⟨y, r, rfl, hw, rfl⟩ | ⟨a, b, r, rfl, hw, rfl⟩ | ⟨a, b, r, rfl, hw, hh, hnc, rfl⟩
  ·simp only [List.cons.injEq] at hw
   obtain ⟨rfl, rfl⟩ := hw
   exact Ay.toT ⟨_, p, c, rfl, h, hc⟩ hn
  ·simp at hw
  ·simp only [List.cons.injEq] at hw
   obtain ⟨rfl, rfl⟩ := hw
   simp only at hnc
   have hne : v ≠ b := by rintro rfl; exact hnc (by simp)
   have hT : T ([Tok.arc v b] ++ comp [Tok.arc v b] [b, v]) := by
    have : comp [Tok.arc v b] [b, v] = [.ver b, .arc b v, .ver v] := by simp [comp]
    rw [this]
    have h3 := T.add (.ver v) [] b (T.one v) hne (by simp; exact Ne.symm hne)
    exact T.rot [.ver v] [.arc v b, .ver b, .arc b v] h3
   have := ATp p [.arc v b] [b, v] [b, v] c v (.arc v b) h2 ⟨by simp; exact Ne.symm hne, by simp⟩ (by simp) rfl hT (by
    intro x hx
    have e : comp [Tok.arc v b] [b, v] = [.ver b, .arc b v, .ver v] := by simp [comp]
    rw [e] at hx
    simp at hx
    simp [hx]) hc hn
   exact this
theorem T.join {u v : Int} {a b : List Tok} (hA : T (.ver u :: a)) (hB : T (.ver v :: b)) (hd : ∀ x, Tok.ver x ∈ Tok.ver u :: a → Tok.ver x ∉ Tok.ver v :: b) :
  T (.ver u :: .arc u v :: (.ver v :: b ++ .arc v u :: a)) := by
 obtain ⟨_, fA2, fA3⟩ := hA.facts
 obtain ⟨_, fB2, fB3⟩ := hB.facts
 have nA := hA.nodup
 have nB := hB.nodup
 obtain ⟨_, _, c1, e1, h1, m1⟩ := hA.ABB
 cases e1
 obtain ⟨_, _, c2, e2, h2, m2⟩ := hB.ABB
 cases e2
 have huv : u ≠ v := by rintro rfl; exact hd u (by simp) (by simp)
 have nAB : ∀ t, t ∈ Tok.ver u :: a → t ∉ Tok.ver v :: b := fun t ht hb => hd _ (fA2 t ht) (fB2 t hb)
 have n1 : Tok.arc u v ∉ Tok.ver u :: a := fun h => hd v (fA3 _ _ h).2.1 (by simp)
 have n2 : Tok.arc u v ∉ Tok.ver v :: b := fun h => hd u (by simp) (fB3 _ _ h).1
 have n3 : Tok.arc v u ∉ Tok.ver u :: a := fun h => hd v (fA3 _ _ h).1 (by simp)
 have n4 : Tok.arc v u ∉ Tok.ver v :: b := fun h => hd u (by simp) (fB3 _ _ h).2.1
 have hnd : (Tok.ver u :: .arc u v :: (.ver v :: b ++ .arc v u :: a)).Nodup := by
  rw [List.nodup_cons] at nA
  have q1 : Tok.ver u ∉ Tok.ver v :: b := nAB _ (by simp)
  rw [List.nodup_cons, List.nodup_cons, List.nodup_append, List.nodup_cons (a := Tok.arc v u)]
  refine ⟨?_, ?_, nB, ⟨fun h => n3 (List.mem_cons_of_mem _ h), nA.2⟩, fun x hx y hy => ?_⟩
  ·intro h
   rcases List.mem_cons.1 h with h | h
   ·cases h
   ·rcases List.mem_append.1 h with h | h
    ·exact q1 h
    ·rcases List.mem_cons.1 h with h | h
     ·cases h
     ·exact nA.1 h
  ·intro h
   rcases List.mem_append.1 h with h | h
   ·exact n2 h
   ·rcases List.mem_cons.1 h with h | h
    ·cases h; exact huv rfl
    ·exact n1 (List.mem_cons_of_mem _ h)
  ·rintro rfl
   rcases List.mem_cons.1 hy with h | h
   ·subst h; exact n4 hx
   ·exact nAB x (List.mem_cons_of_mem _ h) hx
 rw [Al, Ci, Option.bind_some] at h1
 obtain ⟨d2, k1, k2⟩ := Fs (Z := (· = u)) (c2 := [v, u]) (low := [u]) h2 (by simp) (fun y => by simp) (fun p w hm => by rintro rfl; exact hd w (by simp) (fB3 _ _ hm).2.1) (by simp)
 obtain ⟨d3, g1, g2⟩ := Fs (Z := (· ∈ c2)) (c2 := d2) (low := []) h1 (by simp) (fun y => by rw [k2]; simp [or_comm]) (fun p w hm hz => hd w (fA3 _ _ (List.mem_cons_of_mem _ hm)).2.1 (m2 w hz)) (by simp)
 refine Ay.toT ⟨u, _, d3, rfl, ?_, fun x hx => ?_⟩ hnd
 ·rw [Al, Ci, Option.bind_some, Al, EE _ _ _ _ (by simp) (by simp; exact Ne.symm huv), Option.bind_some, Cm]
  rw [show ([v] ++ [u] : List Int) = [v, u] from rfl] at k1
  rw [k1, Option.bind_some, Al, E0, Option.bind_some]
  simpa using g1
 ·rcases (g2 x).1 hx with h | h
  ·have := m1 x h
   simp only [List.mem_cons, List.mem_append] at this ⊢
   rcases this with h | h <;> simp [h]
  ·have := m2 x h
   simp only [List.mem_cons, List.mem_append] at this ⊢
   rcases this with h | h <;> simp [h]
theorem AWu {u v : Int} (huv : u ≠ v) : ∀ {l : List Tok} {x w1 c c1 c0 : List Int}, run (x ++ [v, u], c) l = some (w1, c1) → Tok.arc v u ∉ l → (∀ y, y ∈ c ↔ y ∈ c0 ∨ y = u) → u ∉ c0 →
  ∃ x' d, w1 = x' ++ [v, u] ∧ run (x ++ [v], c0) l = some (x' ++ [v], d) ∧ (∀ y, y ∈ c1 ↔ y ∈ d ∨ y = u) ∧ u ∉ d := by
 intro l
 induction l with
 | nil => intro x w1 c c1 c0 h _ hc hu; cases h; exact ⟨x, c0, rfl, rfl, hc, hu⟩
 | cons t l ih =>
  intro x w1 c c1 c0 h hna hc hu
  rw [Al, Option.bind_eq_some_iff] at h
  obtain ⟨s1, h1, h2⟩ := h
  have hna' : Tok.arc v u ∉ l := fun h => hna (List.mem_cons_of_mem _ h)
  rcases BZ h1 with ⟨y, r, rfl, hw, rfl⟩ | ⟨a, b, r, rfl, hw, rfl⟩ | ⟨a, b, r, rfl, hw, hh, hnc, rfl⟩
  ·obtain ⟨x', d, g1, g2, g3⟩ := ih h2 hna' hc hu
   refine ⟨x', d, g1, ?_, g3⟩
   simp only at hw
   have : ∃ r', x ++ [v] = y :: r' := by
    cases x with
    | nil => simp at hw; exact ⟨[], by simp [hw.1]⟩
    | cons z x => simp at hw; exact ⟨x ++ [v], by simp [hw.1]⟩
   obtain ⟨r', e⟩ := this
   rw [Al, e, Ci, Option.bind_some, ← e]
   exact g2
  ·simp only at hw
   cases x with
   | nil =>
    simp only [List.nil_append, List.cons.injEq] at hw
    obtain ⟨rfl, rfl, _⟩ := hw
    exact absurd (by simp) hna
   | cons z x =>
    simp only [List.cons_append, List.cons.injEq] at hw
    obtain ⟨rfl, hw⟩ := hw
    simp only [← hw] at h2
    obtain ⟨x', d, g1, g2, g3⟩ := ih h2 hna' hc hu
    refine ⟨x', d, g1, ?_, g3⟩
    have : ∃ r', x ++ [v] = b :: r' := by
     cases x with
     | nil => simp at hw; exact ⟨[], by simp [hw.1]⟩
     | cons y x => simp at hw; exact ⟨x ++ [v], by simp [hw.1]⟩
    obtain ⟨r', e⟩ := this
    rw [Al, List.cons_append, e, E0, Option.bind_some, ← e]
    exact g2
  ·simp only at hw hnc
   have hub : u ≠ b := by rintro rfl; exact hnc ((hc u).2 (.inr rfl))
   have hbc : b ∉ c0 := fun h => hnc ((hc b).2 (.inl h))
   have h2' : run ((b :: x) ++ [v, u], b :: c) l = some (w1, c1) := by
    rw [← hw] at h2
    exact h2
   obtain ⟨x', d, g1, g2, g3⟩ := ih (c0 := b :: c0) h2' hna' (fun y => by simp only [List.mem_cons, hc, or_assoc]) (by
    intro hm
    rcases List.mem_cons.1 hm with h | h
    ·exact hub h
    ·exact hu h)
   refine ⟨x', d, g1, ?_, g3⟩
   have : ∃ r', x ++ [v] = a :: r' ∧ r'.head? ≠ some b := by
    cases x with
    | nil =>
     simp at hw
     exact ⟨[], by simp [hw.1], by simp⟩
    | cons z x =>
     simp only [List.cons_append, List.cons.injEq] at hw
     refine ⟨x ++ [v], by simp [hw.1], ?_⟩
     rw [← hw.2] at hh
     cases x with
     | nil => simpa using hh
     | cons y x => simpa using hh
   obtain ⟨r', e, e2⟩ := this
   rw [Al, e, EE _ _ _ _ e2 hbc, Option.bind_some, ← e]
   exact g2
theorem T.split {u v : Int} {p q : List Tok} (h : T (.arc u v :: (p ++ .arc v u :: q))) : T p ∧ Tok.ver v ∈ p := by
 have hn := h.nodup
 obtain ⟨_, f2, f3⟩ := h.facts
 have huv : u ≠ v := (f3 u v (by simp)).2.2.2
 obtain ⟨t, ht⟩ : ∃ t, (Tok.arc u v :: (p ++ .arc v u :: q)).getLast? = some t := ⟨_, List.getLast?_eq_some_getLast (by simp)⟩
 obtain ⟨c, h1, h2⟩ := h.toC _ (Rot.refl _) t ht
 rw [Al, Option.bind_eq_some_iff] at h1
 obtain ⟨s1, k1, k2⟩ := h1
 rcases BZ k1 with ⟨y, r, e, hw, _⟩ | ⟨a, b, r, e, hw, _⟩ | ⟨a, b, r, e, hw, hh, hnc, rfl⟩
 ·cases e
 ·cases e; simp at hw
 ·cases e
  simp only [List.cons.injEq] at hw
  obtain ⟨htu, rfl⟩ := hw
  rw [htu] at k2
  simp only at k2
  rw [Cm, Option.bind_eq_some_iff] at k2
  obtain ⟨⟨w1, c1⟩, g1, g2⟩ := k2
  have hi : Inv ([v, u], [v, u]) := ⟨by simp; exact Ne.symm huv, by simp⟩
  obtain ⟨i1, i2, _⟩ := Gs g1 hi
  rw [List.nodup_cons, List.nodup_append, List.nodup_cons (a := Tok.arc v u)] at hn
  have hnp : Tok.arc v u ∉ p := fun hm => hn.2.2.2 _ hm _ (by simp) rfl
  obtain ⟨x', d, e1, e2, e3, e4⟩ := AWu (x := []) (c0 := [v]) huv g1 hnp (fun y => by simp) (by simp; exact huv)
  rw [Al, Option.bind_eq_some_iff] at g2
  obtain ⟨s2, j1, j2⟩ := g2
  have hx' : x' = [] ∧ s2 = ([u], c1) := by
   rcases BZ j1 with ⟨y, r, e, hw, _⟩ | ⟨a, b, r, e, hw, hs⟩ | ⟨a, b, r, e, hw, hh, hnc, _⟩
   ·cases e
   ·cases e
    simp only at hw
    rw [e1] at hw
    cases x' with
    | nil =>
     simp only [List.nil_append, List.cons.injEq, true_and] at hw
     rw [hs, ← hw]
     exact ⟨rfl, rfl⟩
    | cons z x' =>
     exfalso
     have hnd := i1.1
     simp only at hnd
     rw [e1, hw] at hnd
     simp only [List.cons_append, List.cons.injEq] at hw
     have : v ∈ u :: r := by rw [← hw.2]; simp
     rw [List.nodup_cons] at hnd
     exact hnd.1 this
   ·cases e
    exact absurd (i2 u (by simp)) hnc
  obtain ⟨rfl, rfl⟩ := hx'
  have hmet : ∀ x ∈ d, Tok.ver x ∈ p := by
   intro x hx
   have hxu : x ≠ u := by rintro rfl; exact e4 hx
   have hx1 : x ∈ c1 := (e3 x).2 (.inl hx)
   have hi2 : Inv ([u], c1) := ⟨by simp, fun y hy => by simp at hy; subst hy; exact i2 y (by simp)⟩
   have hx2 := (Gs j2 hi2).2.1 x hx1
   have hx3 := (h2 x).1 hx2
   obtain ⟨g, _⟩ := VK (z := x) (c := c1.filter (· ≠ x)) j2 (by simp; exact hxu) (fun y => by
    simp only [List.mem_filter, decide_eq_true_eq]
    constructor
    ·intro hh
     by_cases e : y = x
     ·exact .inr e
     ·exact .inl ⟨hh, by simpa using e⟩
    ·rintro (hh | rfl)
     ·exact hh.1
     ·exact hx1) (by simp)
   simp only [List.mem_cons, reduceCtorEq, List.mem_append, false_or] at hx3
   rcases hx3 with hh | hh
   ·exact hh
   ·exact absurd hh g
  have e2' : run ([v], [v]) p = some ([v], d) := e2
  have hvd : v ∈ d := (Gs e2' (LC v)).2.1 v (by simp)
  exact ⟨AWH e2' hmet hn.2.1, hmet v hvd⟩
end Go.Pev.Pl.Tok
end
section
namespace Go.Pev
open Go.RowKit
section
variable {P : Program} {g : FuncId}
theorem RJ {na : Nat} {its outs : AE} {rs : List RS} {f : B9 (leaves its) → Option (B9 (leaves outs))} (hf : ∀ x, f x = none) : AO P g (AF na its outs rs f) := by
 intro R args H fz slot k r hk
 unfold AF at hk
 split at hk
 ·cases hk
 ·split at hk
  ·cases hk
  ·rw [hf] at hk; cases hk
end
section
variable {S : List Nat} {H H' : List Ob}
theorem Fz.AXj {s : Spec} (h : Fz s) : Oj s :=
 fun R args H H' fz fz' slot k S hS _ ha => h R args H H' fz fz' slot k ⟨fun id hid => ha.heap id (hS id hid), ha.slotH, ha.slotF, ha.len, fun id hid => by cases hid⟩
def ANH : AE → Bool
 | [] => true
 | (.obj _, _) :: _ => false
 | _ :: r => ANH r
def AWy (S : List Nat) (v : AV) : Prop := ∀ id ∈ Aq v, id ∈ S
def AMA (S : List Nat) (bs : List Bnd) : Prop := ∀ b ∈ bs, ∀ id, b.id? = some id → id ∈ S
theorem AMA.get {bs : List Bnd} (h : AMA S bs) {j : Nat} {b : Bnd} {id : Nat} (hj : bs[j]? = some b) (hi : b.id? = some id) : id ∈ S := h b (List.mem_of_getElem? hj) id hi
theorem AMA.snoc {bs : List Bnd} (h : AMA S bs) {b : Bnd} (hb : ∀ id, b.id? = some id → id ∈ S) : AMA S (bs ++ [b]) := by
 intro x hx id hi
 rcases List.mem_append.1 hx with hx | hx
 ·exact h x hx id hi
 ·simp only [List.mem_singleton] at hx; subst hx; exact hb id hi
theorem AVq {tm : List AV} {bs : List Bnd} {l : Loc} (hS : ∀ id ∈ A8 tm, id ∈ S) (hc : AEZ S H) (hH : ∀ id ∈ S, H[id]? = H'[id]?) (hb : AMA S bs) (hl : ∀ j, l ≠ .obj j) :
  look tm H bs l = look tm H' bs l ∧ ∀ v, look tm H bs l = some v → AWy S v := by
 cases l with
 | tmp t =>
  refine ⟨rfl, fun v hv id hid => hS id ?_⟩
  exact Br (List.mem_of_getElem? hv) hid
 | cell j c =>
  simp only [look]
  cases hj : bs[j]? with
  | none => exact ⟨rfl, fun v hv => by cases hv⟩
  | some b =>
   cases b with
   | none => exact ⟨rfl, fun v hv => by cases hv⟩
   | cut id => exact ⟨rfl, fun v hv => by cases hv⟩
   | whole id =>
    have hid := hb.get hj (id := id) rfl
    simp only
    rw [hH id hid]
    refine ⟨rfl, fun v hv => ?_⟩
    cases ho : H'[id]? with
    | none => rw [ho] at hv; cases hv
    | some o =>
     rw [ho] at hv
     cases o <;> simp only at hv <;> first | (cases hv; done) | skip
     rename_i cs
     intro i hi
     exact hc id hid cs (by rw [hH id hid, ho]) i (Br (List.mem_of_getElem? hv) hi)
 | cap t i =>
  refine ⟨rfl, fun v hv => ?_⟩
  simp only [look] at hv
  cases ht : tm[t]? with
  | none => rw [ht] at hv; cases hv
  | some a =>
   rw [ht] at hv
   cases a <;> simp only at hv <;> first | (cases hv; done) | skip
   ·rename_i f cs
    intro id hid
    refine hS id (Br (List.mem_of_getElem? ht) ?_)
    simp only [Aq]
    exact Br (List.mem_of_getElem? hv) hid
   ·rename_i f cs
    intro id hid
    refine hS id (Br (List.mem_of_getElem? ht) ?_)
    simp only [Aq]
    exact Br (List.mem_of_getElem? hv) hid
 | obj j => exact absurd rfl (hl j)
theorem AB5 {f : List Nat} {fz fz' : List Bool} (hl : fz.length = fz'.length) {id : Nat} (h : fz.getD id false = fz'.getD id false) : (Af f fz).getD id false = (Af f fz').getD id false := by
 rw [Ao, Ao, h, hl]
theorem AXJ {tm : List AV} (hS : ∀ id ∈ A8 tm, id ∈ S) (hc : AEZ S H) (hH : ∀ id ∈ S, H[id]? = H'[id]?) : ∀ (its : AE) (fz fz' : List Bool) (bs : List Bnd), ANH its = true → AMA S bs → fz.length = fz'.length → (∀ id ∈ S, fz.getD id false = fz'.getD id false) →
  dec tm H its fz bs = dec tm H' its fz' bs := by
 intro its
 induction its with
 | nil => intro fz fz' bs _ _ _ _; rfl
 | cons p r ih =>
  intro fz fz' bs hn hb hlen hz
  obtain ⟨l, c⟩ := p
  have hno : (∀ j, l ≠ .obj j) ∧ ANH r = true := by
   cases l with
   | obj j => cases hn
   | tmp t => exact ⟨fun j h => (by cases h), hn⟩
   | cell a b => exact ⟨fun j h => (by cases h), hn⟩
   | cap a b => exact ⟨fun j h => (by cases h), hn⟩
  obtain ⟨e1, e2⟩ := AVq hS hc hH hb hno.1
  have ihr := fun bs hb => ih fz fz' bs hno.2 hb hlen hz
  have unf : ∀ id ∈ S, Am fz id = Am fz' id := fun id hid => by unfold Am; rw [hz id hid]
  cases c with
  | dat t =>
   simp only [dec, ← e1]
   cases hv : look tm H bs l with
   | none => rfl
   | some v =>
    simp only
    rw [Bd t v fun id hid => hH id (e2 v hv id hid)]
    cases Gm H' t v with
    | none => rfl
    | some q =>
     obtain ⟨x, f⟩ := q
     simp only
     rw [ih (Af f fz) (Af f fz') bs hno.2 hb (by rw [CE, CE, hlen]) (fun id hid => AB5 hlen (hz id hid))]
  | own T e =>
   simp only [dec, ← e1]
   cases hv : look tm H bs l with
   | none => rfl
   | some v =>
    cases v with
    | nils e' => simp only; rw [ihr _ (hb.snoc fun id h => by cases h)]
    | own id =>
     have hid : id ∈ S := e2 _ hv id (by simp [Aq])
     simp only
     rw [← hH id hid, unf id hid, ihr _ (hb.snoc fun id' h => by simp only [Bnd.id?, Option.some.injEq] at h; subst h; exact hid)]
    | win id off n =>
     have hid : id ∈ S := e2 _ hv id (by simp [Aq])
     cases off with
     | succ off => rfl
     | zero =>
      simp only
      rw [← hH id hid, unf id hid, ihr _ (hb.snoc fun id' h => by simp only [Bnd.id?, Option.some.injEq] at h; subst h; exact hid)]
    | _ => rfl
  | box n =>
   simp only [dec, ← e1]
   cases hv : look tm H bs l with
   | none => rfl
   | some v =>
    cases v with
    | ptr id off =>
     have hid : id ∈ S := e2 _ hv id (by simp [Aq])
     cases off with
     | succ off => rfl
     | zero =>
      simp only
      rw [← hH id hid, ihr _ (hb.snoc fun id' h => by simp only [Bnd.id?, Option.some.injEq] at h; subst h; exact hid)]
    | _ => rfl
  | map k v =>
   simp only [dec, ← e1]
   cases hv : look tm H bs l with
   | none => rfl
   | some u =>
    cases u with
    | mp id =>
     have hid : id ∈ S := e2 _ hv id (by simp [Aq])
     simp only
     rw [← hH id hid, ihr _ (hb.snoc fun id' h => by simp only [Bnd.id?, Option.some.injEq] at h; subst h; exact hid)]
    | _ => rfl
  | own' j => simp only [dec, ← e1, ihr bs hb]
  | ptr' j off => simp only [dec, ← e1, ihr bs hb]
  | map' j => simp only [dec, ← e1, ihr bs hb]
  | sub' j => simp only [dec, ← e1, ihr bs hb]
  | win' j =>
   simp only [dec, ← e1]
   rw [ihr bs hb]
   cases hv : look tm H bs l with
   | none => rfl
   | some v =>
    cases v with
    | own id =>
     have hid : id ∈ S := e2 _ hv id (by simp [Aq])
     cases bs[j]? with
     | none => rfl
     | some b =>
      cases b with
      | whole id' =>
       refine Eq.trans (b := match decide (id = id'), H[id]? with
        | true, some (.arr _ _ ys) => (match dec tm H' r fz' bs with
         | some (xs, bs', g) => some ((AQ ys, xs), bs', g)
         | none => none)
        | _, _ => none) rfl ?_
       rw [hH id hid]
       rfl
      | _ => rfl
    | win id off n =>
     cases off with
     | succ off => cases bs[j]? <;> rfl
     | zero =>
      cases bs[j]? with
      | none => rfl
      | some b => cases b <;> rfl
    | _ => cases bs[j]? <;> rfl
  | clo f ps => simp only [dec, ← e1, ihr bs hb]
  | bnd f j => simp only [dec, ← e1, ihr bs hb]
  | nil e => simp only [dec, ← e1, ihr bs hb]
theorem AHB {fz fz' : List Bool} : ∀ (n : Nat) (bs : List Bnd) (slot : Nat), (∀ s, slot ≤ s → s < slot + n → A6 H fz s = A6 H' fz' s) → EC H fz (Bm n bs slot) bs = EC H' fz' (Bm n bs slot) bs := by
 intro n
 induction n with
 | zero => intro bs slot _; cases bs <;> rfl
 | succ n ih =>
  intro bs slot h
  cases bs with
  | nil =>
   simp only [Bm, EC, List.tail_nil]
   rw [h slot (Nat.le_refl _) (by omega), ih [] (slot + 1) fun s h1 h2 => h s (by omega) (by omega)]
  | cons b bs =>
   cases b with
   | whole id =>
    simp only [Bm, EC, List.tail_cons]
    rw [ih bs slot fun s h1 h2 => h s h1 (by omega)]
   | none =>
    simp only [Bm, EC, List.tail_cons]
    rw [h slot (Nat.le_refl _) (by omega), ih bs (slot + 1) fun s h1 h2 => h s (by omega) (by omega)]
   | cut id =>
    simp only [Bm, EC, List.tail_cons]
    rw [h slot (Nat.le_refl _) (by omega), ih bs (slot + 1) fun s h1 h2 => h s (by omega) (by omega)]
theorem AH {na : Nat} {its outs : AE} {rs : List RS} {f : B9 (leaves its) → Option (B9 (leaves outs))} (hno : ANH its = true) (hn : Nat.ble (CZ outs) 4 = true) : Oj (AF na its outs rs f) := by
 intro R args H H' fz fz' slot k S hS hc ha
 have hn4 := Nat.le_of_ble_eq_true hn
 have hd : dec args H its fz [] = dec args H' its fz' [] := AXJ hS hc ha.heap its fz fz' [] hno (fun b hb => by cases hb) ha.len ha.wrF
 unfold AF
 rw [hd]
 split
 ·rfl
 ·rename_i x bs fr _
  split
  ·rfl
  ·split
   ·rfl
   ·have hf : ∀ (g : List Nat) s, slot ≤ s → s < slot + CZ outs → A6 H (Af g fz) s = A6 H' (Af g fz') s := fun g s h1 h2 => Dx ha h1 (by omega) g
    unfold Mk
    rw [AHB (fz := fz) (fz' := fz') (CZ outs) bs slot (hf []), AHB (fz := Af fr fz) (fz' := Af fr fz') (CZ outs) bs slot (hf fr)]
end
def AXd (i : Nat) (args : List AV) : Option FuncId :=
 match args[i]? with
 | some (.clo f _) => some f
 | some (.bnd f _) => some f
 | _ => none
def Env.Cx (E : Env) (g : FuncId) (i : Nat) (c : FuncId) (s : Spec) : Env where
 spec x := match Nat.beq x g with
  | true => fun R args H fz slot k => match AXd i args with
   | some c' => match Nat.beq c' c with
    | true => s R args H fz slot k
    | false => E.spec x R args H fz slot k
   | .none => Option.none
  | false => E.spec x
 loc x := match Nat.beq x g with
  | true => false
  | false => E.loc x
 loc2 x := match Nat.beq x g with
  | true => E.loc2 g
  | false => E.loc2 x
theorem Env.A7 {P : Program} {E : Env} {g : FuncId} {i : Nat} {c : FuncId} {s : Spec} (h : AZ P E) (hs : AO P g s) (hl2 : Oj s) : AZ P (E.Cx g i c s) := by
 refine ⟨?_, ?_, ?_⟩
 ·intro x
  simp only [Env.Cx]
  cases hx : Nat.beq x g with
  | false => exact h.1 x
  | true =>
   have := Nat.eq_of_beq_eq_true hx
   subst this
   intro R args H fz slot k r hk
   simp only at hk
   split at hk
   ·rename_i c' hc'
    split at hk
    ·rename_i hb
     obtain ⟨v, e, h1, h2, h3, h4⟩ := hs R args H fz slot k r hk
     exact ⟨v, e, h1, fun R' k' => by simp only [hc', hb]; exact h2 R' k', h3, h4⟩
    ·rename_i hb
     obtain ⟨v, e, h1, h2, h3, h4⟩ := h.1 x R args H fz slot k r hk
     exact ⟨v, e, h1, fun R' k' => by simp only [hc', hb]; exact h2 R' k', h3, h4⟩
   ·cases hk
 ·intro x hx
  simp only [Env.Cx] at hx ⊢
  cases hb : Nat.beq x g with
  | true => rw [hb] at hx; cases hx
  | false => rw [hb] at hx; exact h.2.1 x hx
 ·intro x hx
  simp only [Env.Cx] at hx ⊢
  cases hb : Nat.beq x g with
  | true =>
   rw [hb] at hx
   have := Nat.eq_of_beq_eq_true hb
   subst this
   have h2 := h.2.2 x hx
   intro R args H H' fz fz' slot k S a1 a2 a3
   simp only
   split
   ·split
    ·exact hl2 R args H H' fz fz' slot k S a1 a2 a3
    ·exact h2 R args H H' fz fz' slot k S a1 a2 a3
   ·rfl
  | false => rw [hb] at hx; exact h.2.2 x hx
end Go.Pev
end
section
namespace Go.Pev
open Go.RowKit Go.ChangeShapes Go.WideShapes Go.ChangeAt
def L8 (P : Program) (rd : TypeId → Option Ty) : List Field → Nat → Option Ty
 | [], _ => some .unit
 | f :: r, off => match rd f.type, L8 P rd r (off + P.cellsOf f.type) with
  | some a, some b => match Nat.beq f.offset off && Nat.beq (P.cellsOf f.type) a.size with
   | true => some (.prod a b)
   | false => none
  | _, _ => none
def FK (P : Program) : Nat → TypeId → Option Ty
 | 0, _ => none
 | n + 1, t => match P.underlying t with
  | some .bool => some .bool
  | some (.int k) => some (.int k)
  | some (.slice e) => match FK P n e with
   | some a => match Nat.beq (P.cellsOf e) a.size && !(Nat.beq a.size 0) with
    | true => some (.slice a)
    | false => none
   | none => none
  | some (.array c e) => match FK P n e with
   | some a => match Nat.beq (P.cellsOf e) a.size && Nat.beq (P.cellsOf t) (c * a.size) with
    | true => some (.arr c a)
    | false => none
   | none => none
  | some (.struct fs) => match L8 P (FK P n) fs.toList 0 with
   | some a => match Nat.beq (P.cellsOf t) a.size with
    | true => some a
    | false => none
   | none => none
  | _ => none
def wfD : (t : Ty) → t.den → Prop
 | .unit, _ => True
 | .bool, _ => True
 | .int k, n => k.min ≤ n ∧ n ≤ k.max
 | .slice e, xs => List.length (α := e.den) xs ≤ maxLen ∧ ∀ x ∈ (xs : List e.den), wfD e x
 | .prod a b, d => wfD a d.1 ∧ wfD b d.2
 | .arr n e, xs => List.length (α := e.den) xs = n ∧ ∀ x ∈ (xs : List e.den), wfD e x
section
variable {H : Type} {enc : TypeId × Value → H} {P : Program} {w : World} {spare : Nat → Bool} {held : Bool}
abbrev below (w : World) : Nat → Prop := fun b => b < w.heap.size
theorem AWp {k : IntKind} {n : Int} (h : (Lit.int k n).wf = true) : k.min ≤ n ∧ n ≤ k.max := by
 simpa [Lit.wf] using h
theorem AMs {α : Type} {R : α → List Value → Prop} {k : Nat} : ∀ (m : Nat) (f : Nat → List Value), (∀ i, i < m → (f i).length = k ∧ ∃ x, R x (f i)) → ∃ xs : List α, xs.length = m ∧ rows R xs ((List.range m).flatMap f) ∧ ∀ x ∈ xs, ∃ i, i < m ∧ R x (f i) := by
 intro m
 induction m with
 | zero => intro f _; exact ⟨[], rfl, rfl, fun x hx => by cases hx⟩
 | succ m ih =>
  intro f h
  obtain ⟨xs, h1, h2, h3⟩ := ih f fun i hi => h i (by omega)
  obtain ⟨_, x, hx⟩ := h m (by omega)
  refine ⟨xs ++ [x], by simp [h1], ?_, fun y hy => ?_⟩
  ·rw [List.range_succ, List.flatMap_append]
   exact Jk h2 (by simp; exact ⟨f m, [], by simp, hx, rfl⟩)
  ·rcases List.mem_append.1 hy with hy | hy
   ·obtain ⟨i, hi, hr⟩ := h3 y hy; exact ⟨i, by omega, hr⟩
   ·simp only [List.mem_singleton] at hy; subst hy; exact ⟨m, by omega, hx⟩
theorem AT5 {f : Nat → List Value} {k : Nat} : ∀ (m : Nat), (∀ i, i < m → (f i).length = k) → ∀ (j : Nat) (u : Value), ((List.range m).flatMap f)[j]? = some u → ∃ i r, i < m ∧ r < k ∧ j = i * k + r ∧ (f i)[r]? = some u := by
 intro m
 induction m with
 | zero => intro _ j u h; simp at h
 | succ m ih =>
  intro hl j u h
  rw [List.range_succ, List.flatMap_append] at h
  have hlen : ∀ m', m' ≤ m → ((List.range m').flatMap f).length = m' * k := by
   intro m' hm'
   induction m' with
   | zero => simp
   | succ m' ih' =>
    rw [List.range_succ, List.flatMap_append, List.length_append, ih' (by omega)]
    simp [hl m' (by omega), Nat.add_mul]
  rcases Nat.lt_or_ge j (m * k) with hj | hj
  ·rw [List.getElem?_append_left (by rw [hlen m (Nat.le_refl _)]; exact hj)] at h
   obtain ⟨i, r, h1, h2, h3, h4⟩ := ih (fun i hi => hl i (by omega)) j u h
   exact ⟨i, r, by omega, h2, h3, h4⟩
  ·rw [List.getElem?_append_right (by rw [hlen m (Nat.le_refl _)]; exact hj), hlen m (Nat.le_refl _)] at h
   simp only [List.flatMap_cons, List.flatMap_nil, List.append_nil] at h
   have hr : j - m * k < k := by
    have := DS h
    rwa [hl m (by omega)] at this
   exact ⟨m, j - m * k, by omega, hr, by omega, h⟩
theorem AUb (a : Addr) (i j : Nat) : (a.add i).add j = a.add (i + j) := by
 unfold Addr.add
 by_cases hi : i = 0
 ·subst hi; simp
 ·by_cases hj : j = 0
  ·subst hj; simp
  ·have : ¬ (i + j = 0) := by omega
   simp [hi, hj, Nat.add_assoc]
theorem AL9 {α : Type} [Inhabited α] {n : Nat} {p : Nat → α → Prop} (h : ∀ i, i < n → ∃ x, p i x) : ∃ f : Nat → α, ∀ i, i < n → p i (f i) := by
 classical
 refine ⟨fun i => if hi : i < n then Classical.choose (h i hi) else default, fun i hi => ?_⟩
 simp only [dif_pos hi]
 exact Classical.choose_spec (h i hi)
theorem AJy {rd : TypeId → Option Ty} {cs : List Value} (hrd : ∀ (f : Field) (a : Ty), rd f.type = some a → (P.cellsOf f.type = a.size) → (∃ y : Nat × (DataW H × List MemPlace), DataW.trod enc P w 0 spare held y.1 f.type ((cs.drop f.offset).take (P.cellsOf f.type)) = some y.2) → ∃ d : a.den, Dat w (below w) a d ((cs.drop f.offset).take (P.cellsOf f.type)) ∧ wfD a d) :
  ∀ (fs : List Field) (off : Nat) (t : Ty), L8 P rd fs off = some t → off + t.size = cs.length → (∀ f ∈ fs, ∃ y : Nat × (DataW H × List MemPlace), DataW.trod enc P w 0 spare held y.1 f.type ((cs.drop f.offset).take (P.cellsOf f.type)) = some y.2) →
   ∃ d : t.den, Dat w (below w) t d (cs.drop off) ∧ wfD t d := by
 intro fs
 induction fs with
 | nil =>
  intro off t h hl _
  simp only [L8, Option.some.injEq] at h
  subst h
  refine ⟨(), ?_, trivial⟩
  show cs.drop off = []
  simp [Ty.size] at hl
  exact List.drop_eq_nil_of_le (by omega)
 | cons f r ih =>
  intro off t h hl hf
  simp only [L8] at h
  split at h
  ·rename_i a b ha hb
   split at h
   ·rename_i hc
    simp only [Option.some.injEq] at h
    subst h
    simp only [Bool.and_eq_true] at hc
    have h1 := Nat.eq_of_beq_eq_true hc.1
    have h2 := Nat.eq_of_beq_eq_true hc.2
    obtain ⟨d, hd, hw⟩ := hrd f a ha h2 (hf f (by simp))
    simp only [Ty.size] at hl
    obtain ⟨e, he, hw'⟩ := ih (off + P.cellsOf f.type) b hb (by omega) fun g hg => hf g (by simp [hg])
    refine ⟨(d, e), ⟨(cs.drop off).take (P.cellsOf f.type), cs.drop (off + P.cellsOf f.type), ?_, ?_, he⟩, hw, hw'⟩
    ·rw [← List.drop_drop, List.take_append_drop]
    ·rw [h1] at hd; exact hd
   ·cases h
  ·cases h
theorem ARH : ∀ (n : Nat) (t : TypeId) (ty : Ty) (fuel : Nat) (cs : List Value) (x : DataW H × List MemPlace), FK P n t = some ty → DataW.trod enc P w 0 spare held fuel t cs = some x → ∃ d : ty.den, Dat w (below w) ty d cs ∧ wfD ty d := by
 intro n
 induction n with
 | zero => intro t ty fuel cs x h; cases h
 | succ n ih =>
  intro t ty fuel cs x h hx
  simp only [FK] at h
  split at h
  ·rename_i hu
   simp only [Option.some.injEq] at h; subst h
   obtain ⟨b, rfl, _⟩ := DataW.trod_bool hu hx
   exact ⟨b, rfl, trivial⟩
  ·rename_i k hu
   simp only [Option.some.injEq] at h; subst h
   obtain ⟨m, rfl, _, hw⟩ := DataW.trod_int hu hx
   exact ⟨m, rfl, AWp hw⟩
  ·rename_i e hu
   split at h
   ·rename_i a ha
    split at h
    ·rename_i hc
     simp only [Option.some.injEq] at h; subst h
     rw [Bool.and_eq_true] at hc
     have hpos : a.size ≠ 0 := fun h0 => by rw [h0] at hc; simp at hc
     have hc := Nat.eq_of_beq_eq_true hc.1
     rcases DataW.trod_slice hu hx with ⟨rfl, _⟩ | ⟨ad, len, cap, elems, rest, m, rfl, rfl, _, _, hle, hmax, hlen, hel, _⟩
     ·exact ⟨[], ⟨none, 0, rfl, Nat.le_refl _, fun hne => absurd rfl hne⟩, Nat.zero_le _, fun x hx => by cases hx⟩
     ·-- each element
      have each : ∀ i, i < len → ∃ cs', w.cells? 0 (ad.add (i * P.cellsOf e)) (P.cellsOf e) = some cs' ∧ ∃ d : a.den, Dat w (below w) a d cs' ∧ wfD a d := by
       intro i hi
       have h1 := hel i hi
       rw [List.getElem?_eq_getElem (by omega), Option.bind_eq_some_iff] at h1
       obtain ⟨cs', h2, h3⟩ := h1
       exact ⟨cs', h2, ih e a m cs' _ ha h3⟩
      obtain ⟨f, hf⟩ := AL9 (α := List Value) (p := fun i cs' => w.cells? 0 (ad.add (i * P.cellsOf e)) (P.cellsOf e) = some cs' ∧ ∃ d : a.den, Dat w (below w) a d cs' ∧ wfD a d) each
      have hfl : ∀ i, i < len → (f i).length = a.size := by
       intro i hi
       obtain ⟨_, hl, _⟩ := World.cells?_some (hf i hi).1
       rw [hl, hc]
      obtain ⟨xs, h1, h2, h3⟩ := AMs (R := fun (d : a.den) cs => Dat w (below w) a d cs ∧ wfD a d) (k := a.size) len f fun i hi => ⟨hfl i hi, (hf i hi).2⟩
      refine ⟨xs, ⟨some ad, cap, by rw [h1], by rw [h1]; exact hle, fun hne => ⟨ad, (List.range len).flatMap f, rfl, ?_, BC (fun x _ cs hx => hx.1) h2, fun j u hu => ?_⟩⟩, by rw [h1]; exact Nat.le_trans hle hmax, fun x hx => ?_⟩
      ·-- the block is there
       have hl0 : 0 < len := by
        rcases Nat.eq_zero_or_pos len with h0 | h0
        ·exact absurd (List.eq_nil_of_length_eq_zero (by rw [h1, h0])) hne
        ·exact h0
       have hb := World.cells?_block (hf 0 hl0).1 (by omega)
       rw [Nat.zero_mul] at hb
       have e0 : ad.add 0 = ad := by simp [Addr.add]
       rw [e0] at hb
       exact hb
      ·obtain ⟨i, r, hi, hr, rfl, hur⟩ := AT5 len hfl j u hu
       obtain ⟨_, _, hcell⟩ := World.cells?_some (hf i hi).1
       have := hcell r (by rw [hc]; exact hr)
       rw [hur] at this
       rw [← this, hc, AUb]
      ·obtain ⟨i, _, hr⟩ := h3 x hx
       exact hr.2
    ·cases h
   ·cases h
  ·rename_i c e hu
   split at h
   ·rename_i a ha
    split at h
    ·rename_i hc
     simp only [Option.some.injEq] at h; subst h
     rw [Bool.and_eq_true] at hc
     have hc1 := Nat.eq_of_beq_eq_true hc.1
     have hc2 := Nat.eq_of_beq_eq_true hc.2
     obtain ⟨xs, m, rfl, _, hl, hxs, hfs⟩ := DataW.trod_array hu hx
     rw [hc2] at hl
     obtain ⟨ys, h1, h2, h3⟩ := AMs (R := fun (d : a.den) cs => Dat w (below w) a d cs ∧ wfD a d) (k := a.size) c (fun i => (cs.drop (i * a.size)).take a.size) fun i hi => by
      have hi1 : i * a.size + a.size ≤ c * a.size := by
       have := Nat.mul_le_mul_right a.size (show i + 1 ≤ c from hi)
       rwa [Nat.add_mul, Nat.one_mul] at this
      have h1 := hfs i hi
      rw [List.getElem?_eq_getElem (by omega), hc1] at h1
      exact ⟨by rw [List.length_take, List.length_drop, hl]; omega, ih e a m _ _ ha h1⟩
     have hjoin : ∀ k, k ≤ c → (List.range k).flatMap (fun i => (cs.drop (i * a.size)).take a.size) = cs.take (k * a.size) := by
      intro k
      induction k with
      | zero => intro _; simp
      | succ k ihk =>
       intro hk
       rw [List.range_succ, List.flatMap_append, ihk (by omega), Nat.add_mul, Nat.one_mul, List.take_add]
       simp
     rw [hjoin c (Nat.le_refl _), ← hl, List.take_length] at h2
     exact ⟨ys, ⟨h1, BC (fun x _ cs hx => hx.1) h2⟩, h1, fun x hx => by obtain ⟨i, _, hr⟩ := h3 x hx; exact hr.2⟩
    ·cases h
   ·cases h
  ·rename_i fs hu
   split at h
   ·rename_i a ha
    split at h
    ·rename_i hc
     simp only [Option.some.injEq] at h; subst h
     have hc := Nat.eq_of_beq_eq_true hc
     obtain ⟨xs, m, rfl, _, hl, hxs, hfs⟩ := DataW.trod_struct hu hx
     obtain ⟨d, hd, hw⟩ := AJy (enc := enc) (w := w) (spare := spare) (held := held) (cs := cs) (fun f b hb _ ⟨y, hy⟩ => ih f.type b y.1 _ y.2 hb hy) fs.toList 0 _ ha (by rw [hl, hc]; omega) (fun f hf => by
      obtain ⟨i, hi⟩ := List.getElem?_of_mem hf
      have h1 := hfs i f (by simpa using hi)
      have hlt : i < xs.length := by rw [hxs]; simpa using DS hi
      rw [List.getElem?_eq_getElem hlt] at h1
      exact ⟨(m, xs[i]), h1⟩)
     rw [List.drop_zero] at hd
     exact ⟨d, hd, hw⟩
    ·cases h
   ·cases h
  ·cases h
theorem AKX {r : Reach} {b0 : Nat} {t : TypeId} {v : Value} (hval : Value.okWide P w r b0 t v) (hn : ∀ d, P.underlying t = some d → (match d with | .bool | .int _ | .slice _ => true | _ => false) = true) {ty : Ty} {n : Nat} (h : FK P (n + 1) t = some ty) : v.cells.toList = [v] := by
 simp only [Value.okWide] at hval
 have hu : ∃ d, P.underlying t = some d := by
  cases hu : P.underlying t with
  | none => simp only [FK, hu] at h; cases h
  | some d => exact ⟨d, rfl⟩
 obtain ⟨d, hu⟩ := hu
 have := hn d hu
 rw [hu] at hval
 cases d <;> simp only [Bool.false_eq_true] at this <;> simp only [Cell.okWide, hu] at hval <;> cases v <;> first | rfl | (simp_all [Cell.ok])
theorem AEr {r : Reach} {b0 : Nat} {t : TypeId} {v : Value} {ps : List MemPlace} {dd : DataW H} (hval : Value.okWide P w r b0 t v) (hd : DataW.Trod enc P w 0 spare held t v dd ps) {ty : Ty} {n : Nat} (h : FK P (n + 1) t = some ty) :
  ∃ d : ty.den, Bi w (below w) ty d v ∧ wfD ty d := by
 obtain ⟨fuel, hf⟩ := hd
 obtain ⟨d, h1, h2⟩ := ARH (n + 1) t ty fuel _ _ h hf
 refine ⟨d, ?_, h2⟩
 have one : (∀ d, P.underlying t = some d → (match d with | .bool | .int _ | .slice _ => true | _ => false) = true) → ty.isAgg = false → Bi w (below w) ty d v := by
  intro hn hg
  unfold Bi
  rw [hg]
  rw [AKX hval hn h] at h1
  exact h1
 have agg : (∃ cs, v = .agg cs) → ty.isAgg = true → Bi w (below w) ty d v := by
  rintro ⟨cs, rfl⟩ hg
  unfold Bi
  rw [hg]
  exact ⟨cs, rfl, h1⟩
 have hu : ∃ d, P.underlying t = some d := by
  cases hu : P.underlying t with
  | none => simp only [FK, hu] at h; cases h
  | some d => exact ⟨d, rfl⟩
 obtain ⟨td, hu⟩ := hu
 simp only [FK, hu] at h
 split at h
 ·rename_i hq; cases hq; simp only [Option.some.injEq] at h; subst h
  exact one (fun d hd => by rw [hu] at hd; cases hd; rfl) rfl
 ·rename_i k hq; cases hq; simp only [Option.some.injEq] at h; subst h
  exact one (fun d hd => by rw [hu] at hd; cases hd; rfl) rfl
 ·rename_i e hq; cases hq
  split at h
  ·split at h
   ·simp only [Option.some.injEq] at h; subst h
    exact one (fun d hd => by rw [hu] at hd; cases hd; rfl) rfl
   ·cases h
  ·cases h
 ·rename_i c e hq; cases hq
  have hv : ∃ cs, v = .agg cs := by
   simp only [Value.okWide, hu] at hval
   obtain ⟨cs, rfl, _⟩ := hval
   exact ⟨cs, rfl⟩
  split at h
  ·split at h
   ·simp only [Option.some.injEq] at h; subst h
    exact agg hv rfl
   ·cases h
  ·cases h
 ·rename_i fs hq; cases hq
  have hv : ∃ cs, v = .agg cs := by
   simp only [Value.okWide, hu] at hval
   obtain ⟨cs, rfl, _⟩ := hval
   exact ⟨cs, rfl⟩
  split at h
  ·rename_i a ha
   split at h
   ·simp only [Option.some.injEq] at h; subst h
    refine agg hv ?_
    cases hfs : fs.toList with
    | nil => rw [hfs] at ha; simp only [L8, Option.some.injEq] at ha; subst ha; rfl
    | cons f r =>
     rw [hfs] at ha
     simp only [L8] at ha
     split at ha
     ·split at ha
      ·simp only [Option.some.injEq] at ha; subst ha; rfl
      ·cases ha
     ·cases ha
   ·cases h
  ·cases h
 ·cases h
theorem Y2 {g : FuncId} {s : Spec} (hs : AO P g s) {args : List AV} {b : Bool} {e : Eff} (hrun : s (AV × Eff) args [] [] 0 (fun v e => some (v, e)) = some (.data .bool b, e)) {vals : List Value}
  (hr : Ae w (below w) (fun _ => none) [] args vals) : Calls P g vals.toArray w fun en w' => en = .returned (.bool b) ∧ Below w.heap.size w w' := by
 obtain ⟨v, e', h1, _, _, h4⟩ := hs _ args [] [] 0 _ _ hrun
 simp only [Option.some.injEq, Prod.mk.injEq] at h1
 obtain ⟨rfl, rfl⟩ := h1
 have hi : HI w (below w) (fun _ => none) [] [] := ⟨fun id o h => by simp at h, fun i j b c b' c' h => by simp [owned] at h, fun i b c h => by simp [owned] at h, fun i T t xs b c h => by simp at h, fun b h => h, rfl⟩
 refine (h4 w _ _ vals hi hr).mono ?_
 rintro en w' ⟨u, rfl, F', m', ⟨hx, _⟩, hu⟩
 have hb : u = .bool b := Cp hu
 subst hb
 exact ⟨rfl, hx.os, hx.tape, hx.output, hx.size, fun i hi => hx.keep i hi fun j c ho _ => by simp [owned] at ho⟩
end
section
variable {H : Type} {enc : TypeId × Value → H} {P : Program}
theorem YV {f : Func} {s : ChangeSpec} {apart fresh handsOn again : Bool} {W W' : World} {args : Array Value} {v : Value} {ds gs : List (DataW H)} {before pa pv : List MemPlace}
  (hW : DataW.Whole enc P f.params.toList s.vars apart W args.toList ds gs before)
  (hres : ∀ (b : Nat) (sp : Nat → Bool) (hd : Bool), DataW.TrodAll enc P W' b sp hd f.resultTypes.toList (v.resultList f.resultTypes.size) (s.fn H (ds ++ gs)).results [])
  (hargs : ∀ sp : Nat → Bool, (∀ p ∈ before, sp p.block = true) → DataW.TrodAll enc P W' 0 sp true f.params.toList args.toList (s.fn H (ds ++ gs)).args pa)
  (hvars : ∀ sp : Nat → Bool, (∀ p ∈ before, sp p.block = true) → DataW.TrodVars enc P W' sp s.vars (s.fn H (ds ++ gs)).vars pv)
  (hps : before = pa ++ pv) (hb : Below W.heap.size W W')
  (hok : ∀ (j : Nat) (t : TypeId) (r : Value), f.resultTypes[j]? = some t → (v.resultList f.resultTypes.size)[j]? = some r → Value.okWide P W' .any 0 t r) :
  s.post enc P f apart fresh handsOn again W args v W' := by
 have hlt : ∀ p ∈ before, p.block < W.heap.size := fun p hp => hW.lt p hp
 have hold : ∀ p ∈ before, (fun b => decide (b < W.heap.size)) p.block = true := fun p hp => by simpa using hlt p hp
 refine ⟨ds, gs, before, [], pa, pv, hW, hres _ _ _, hargs _ hold, hvars _ hold, World.keptBut_mono (fun p hp => ⟨hp, ?_⟩) (hb.frame (· ∈ before)), fun _ => ?_⟩
 ·rw [hps, List.mem_append] at hp
  exact Or.inr hp
 ·obtain ⟨_, _, _, _, _, hz, hn⟩ := hW
  refine ⟨hok, _, _, ([] ++ pa) ++ pv, ⟨[] ++ pa, pv, trodAll_append (hargs _ (fun _ _ => rfl)) (hres _ _ _), hvars _ (fun _ _ => rfl), rfl, ?_, ?_⟩, ?_⟩
  ·intro b off hp
   have hin : MemPlace.cell b off ∈ before := by rw [hps]; simpa using hp
   rw [hb.frozen (hlt _ hin)]
   exact hz b off hin
  ·intro ha
   have := hn ha
   rw [hps] at this
   simpa using this
  ·intro p hp _
   rw [hps]
   simpa using hp
theorem TL {t : TypeId} (hl : laidOutB P = true) (hr : P.readableRec t = true) (hrow : t < P.types.size) {W W' : World} {v : Value} {d : DataW H} {ps : List MemPlace}
  (h : DataW.Trod enc P W 0 (fun _ => true) true t v d ps) (hb : Below W.heap.size W W') (hlt : ∀ x ∈ ps, x.block < W.heap.size) {sp : Nat → Bool} (hs : ∀ x ∈ ps, sp x.block = true) :
  DataW.Trod enc P W' 0 sp true t v d ps :=
 WideElems.Trod_stays hl hr hrow h (fun x hx => hb.same (hlt x hx)) hs
end
end Go.Pev
end
section
section
namespace Go.Pev.Pl
open Tok
theorem AMz {a b : Nat} (hb : 0 < b) : rem? (a : Int) (b : Int) = some ((a % b : Nat) : Int) := by
 rw [AJu, YU, if_neg (by omega)]
 rfl
theorem Jp {n u v : Int} (h : okT n (.arc u v)) : okT n (.arc v u) := ⟨h.2.1, h.1, Ne.symm h.2.2⟩
end Go.Pev.Pl
end
section
namespace Go.Pev.Pl
open Tok
theorem AXM (n t : Int) : TI n [t] ↔ In n t := by
 constructor
 ·rintro ⟨L, h1, h2, h3⟩
  rcases h3.leaf with ⟨v, e⟩ | ⟨x, v, r, hr⟩
  ·subst e
   simp only [List.map_cons, List.map_nil, List.cons.injEq, and_true] at h1
   rw [h1]
   exact h2 (.ver v) (by simp)
  ·have h4 := hr.length
   have h5 := congrArg List.length h1
   simp only [List.length_cons, List.length_nil, List.length_map] at h4 h5
   omega
 ·intro h
  exact ⟨[.ver t], rfl, fun x hx => by simp at hx; subst hx; exact h, T.one t⟩
theorem AXN (n : Int) : ¬ TI n [] := by
 rintro ⟨L, h1, h2, h3⟩
 have := h3.facts.1
 cases L with
 | nil => exact this rfl
 | cons t L => cases h1
end Go.Pev.Pl
end
section
namespace Go.Pev.Pl
open Tok
def RG (n : Int) (xs : List Int) : Prop := Rt xs ∧ xs ≠ [] ∧ Gl xs = xs.headD 0 ∧ TI n xs
def okR (n : Int) : List Int → Int → List (List Int) → Prop
 | _, _, [] => True
 | seen, last, l :: ls => RG n l ∧ last < l.headD 0 ∧ (∀ t ∈ l, t < n → t ∉ seen) ∧ okR n (seen ++ l.filter (fun t => decide (t < n))) (l.headD 0) ls
def RF (n : Int) (rings : List (List Int)) : Prop := Sz n ∧ okR n [] (-1) rings ∧ ∀ v, 0 ≤ v → v < n → v ∈ rings.flatten
noncomputable instance (n : Int) (rings : List (List Int)) : Decidable (RF n rings) := Classical.propDecidable _
noncomputable instance (n : Int) (xs : List Int) : Decidable (RG n xs) := Classical.propDecidable _
def MI (n : Int) (met : List (Int × Int)) (seen : List Int) : Prop := ∀ t, t < n → (Ac met t).getD (0 : Int) = if t ∈ seen then 1 else 0
theorem AA3 (n : Int) (l : List Int) (hl : l.length < 1073741824) (d1 : List (List Int)) (d3 : Int) (d4 : List (List Int)) (d5 d6 : Int) (d7 : List Int) (d8 d9 : Int) (d10 : Bool) (d11 : List Int) (d12 d13 : Bool) (d14 : List Int) (d15 : Int) (d16 : List Int) (d17 : Int) (d18 : Bool) (d19 : Int) (d20 : List Int) (d21 d22 : Bool) :
  ∀ (m k cnt : Nat) (met : List (Int × Int)) (seen : List Int), k + m = l.length → MI n met seen → (l.drop k).Nodup → m < cnt →
  ((∀ t ∈ l.drop k, t < n → t ∉ seen) ∧ ∃ met', AU C1 cnt (n, d1, met, d3, d4, d5, d6, d7, d8, d9, d10, d11, d12, d13, d14, d15, d16, d17, d18, d19, d20, d21, d22, l, (l.length : Int), (k : Int), ()) =
    some (.inr (.inl (n, d1, met', d3, d4, d5, d6, d7, d8, d9, d10, d11, d12, d13, d14, d15, d16, d17, d18, d19, d20, d21, d22, ()))) ∧ MI n met' (seen ++ (l.drop k).filter (fun t => decide (t < n)))) ∨
  (¬ (∀ t ∈ l.drop k, t < n → t ∉ seen) ∧ AU C1 cnt (n, d1, met, d3, d4, d5, d6, d7, d8, d9, d10, d11, d12, d13, d14, d15, d16, d17, d18, d19, d20, d21, d22, l, (l.length : Int), (k : Int), ()) = some (.inl (false, ()))) := by
 intro m
 induction m with
 | zero =>
  intro k cnt met seen hk hm hn hc
  obtain ⟨cnt, rfl⟩ : ∃ c, cnt = c + 1 := ⟨cnt - 1, by omega⟩
  have e : l.drop k = [] := List.drop_of_length_le (by omega)
  rw [e]
  refine .inl ⟨by simp, met, ?_, by simpa using hm⟩
  rw [AU, C1, AL, decide_eq_false (by omega)]
 | succ m ih =>
  intro k cnt met seen hk hm hn hc
  obtain ⟨cnt, rfl⟩ : ∃ c, cnt = c + 1 := ⟨cnt - 1, by omega⟩
  have hk' : k < l.length := by omega
  have e : l.drop k = l.getD k 0 :: l.drop (k + 1) := by
   rw [List.drop_eq_getElem_cons hk', List.getD_eq_getElem?_getD, List.getElem?_eq_getElem hk', Option.getD_some]
  rw [AU, C1, AL, decide_eq_true hk']
  simp only [DH (0 : Int) hk']
  rw [e] at hn ⊢
  generalize l.getD k 0 = t at *
  rw [List.nodup_cons] at hn
  rw [AM (by omega), Aj]
  by_cases ht : t < n
  ·rw [decide_eq_true ht]
   have hmt := hm t ht
   simp only [hmt, Aj]
   by_cases hs : t ∈ seen
   ·rw [if_pos hs, decide_eq_true (by omega)]
    exact .inr ⟨fun h => h t (by simp) ht hs, rfl⟩
   ·rw [if_neg hs, decide_eq_false (by omega)]
    simp only []
    have w1 : IntKind.wrap .i64 ((0 : Int) + 1) = 1 := by rw [Ah (by omega)]; rfl
    rw [w1]
    have hm' : MI n (Ai met t 1) (seen ++ [t]) := by
     intro y hy
     rw [Fa]
     by_cases e2 : y = t
     ·simp [e2]
     ·simp only [e2, if_false, List.mem_append, List.mem_singleton, or_false]; exact hm y hy
    have hiff : (∀ y ∈ t :: l.drop (k + 1), y < n → y ∉ seen) ↔ ∀ y ∈ l.drop (k + 1), y < n → y ∉ seen ++ [t] := by
     constructor
     ·intro h y hy hyn hm2
      simp only [List.mem_append, List.mem_singleton] at hm2
      rcases hm2 with h2 | rfl
      ·exact h y (List.mem_cons_of_mem _ hy) hyn h2
      ·exact hn.1 hy
     ·intro h y hy hyn hm2
      rcases List.mem_cons.1 hy with rfl | hy
      ·exact hs hm2
      ·exact h y hy hyn (by simp [hm2])
    rcases ih (k + 1) cnt _ _ (by omega) hm' hn.2 (by omega) with ⟨q1, met', q2, q3⟩ | ⟨q1, q2⟩
    ·refine .inl ⟨hiff.2 q1, met', q2, ?_⟩
     rw [List.filter_cons_of_pos (by simpa using ht)]
     simpa using q3
    ·exact .inr ⟨fun h => q1 (hiff.1 h), q2⟩
  ·rw [decide_eq_false ht]
   simp only []
   have hm' : MI n (Ai met t (IntKind.wrap .i64 (((Ac met t).getD (0 : Int)) + (1 : Int)))) seen := by
    intro y hy
    rw [Fa, if_neg (by omega)]
    exact hm y hy
   have hiff : (∀ y ∈ t :: l.drop (k + 1), y < n → y ∉ seen) ↔ ∀ y ∈ l.drop (k + 1), y < n → y ∉ seen := by
    constructor
    ·intro h y hy; exact h y (List.mem_cons_of_mem _ hy)
    ·intro h y hy hyn
     rcases List.mem_cons.1 hy with rfl | hy
     ·exact absurd hyn ht
     ·exact h y hy hyn
   rcases ih (k + 1) cnt _ _ (by omega) hm' hn.2 (by omega) with ⟨q1, met', q2, q3⟩ | ⟨q1, q2⟩
   ·refine .inl ⟨hiff.2 q1, met', q2, ?_⟩
    rw [List.filter_cons_of_neg (by simpa using ht)]
    exact q3
   ·exact .inr ⟨fun h => q1 (hiff.1 h), q2⟩
theorem TM (n : Int) (rings : List (List Int)) (hlen : rings.length < 1073741824) (hr : ∀ l ∈ rings, l.length < 9223372036854775808 ∧ ∀ x ∈ l, -9223372036854775808 ≤ x ∧ x ≤ 9223372036854775807) :
  ∀ (ls : List (List Int)) (i cnt : Nat) (met : List (Int × Int)) (last : Int) (seen : List Int), rings.drop i = ls → i ≤ rings.length → MI n met seen → ls.length < cnt →
  (okR n seen last ls ∧ ∃ met' seen', AU C2 cnt (n, rings, met, last, rings, (rings.length : Int), (i : Int), ()) = some (.inr (.inl (n, rings, met', ()))) ∧ MI n met' seen' ∧ ∀ v, v ∈ seen' ↔ v ∈ seen ∨ (v < n ∧ v ∈ ls.flatten)) ∨
  (¬ okR n seen last ls ∧ AU C2 cnt (n, rings, met, last, rings, (rings.length : Int), (i : Int), ()) = some (.inl (false, ()))) := by
 have hmany : 4294967296 < many := by simp only [many]; omega
 intro ls
 induction ls with
 | nil =>
  intro i cnt met last seen hd hi hm hc
  obtain ⟨cnt, rfl⟩ : ∃ c, cnt = c + 1 := ⟨cnt - 1, by simp at hc; omega⟩
  have : rings.length ≤ i := by simpa using hd
  refine .inl ⟨trivial, met, seen, ?_, hm, by simp⟩
  rw [AU, C2, AL, decide_eq_false (by omega)]
 | cons l ls ih =>
  intro i cnt met last seen hd hi hm hc
  simp only [List.length_cons] at hc
  obtain ⟨cnt, rfl⟩ : ∃ c, cnt = c + 1 := ⟨cnt - 1, by omega⟩
  have hi' : i < rings.length := by
   refine Classical.byContradiction fun h => ?_
   rw [List.drop_of_length_le (by omega)] at hd
   cases hd
  rw [List.drop_eq_getElem_cons hi'] at hd
  simp only [List.cons.injEq] at hd
  obtain ⟨hd1, hd2⟩ := hd
  have hx : rings[i]? = some l := by rw [List.getElem?_eq_getElem hi', hd1]
  have hmem : l ∈ rings := List.mem_of_getElem? hx
  obtain ⟨hl, hlr⟩ := hr l hmem
  rw [AU, C2, AL, decide_eq_true hi', okR]
  simp only [AY hx, Av]
  cases l with
  | nil =>
   rw [AP, decide_eq_true (by simp)]
   exact .inr ⟨fun h => h.1.2.1 rfl, rfl⟩
  | cons x tl =>
   rw [AP, decide_eq_false (by simp only [List.length_cons]; omega)]
   have i0 : idx (x :: tl) (0 : Int) = some x := by rw [N4]; rfl
   simp only [i0, List.headD_cons, A2]
   by_cases c1 : x ≤ last
   ·rw [decide_eq_true c1]
    exact .inr ⟨fun h => by omega, rfl⟩
   ·rw [decide_eq_false c1]
    simp only [L6]
    by_cases c2 : Rt (x :: tl)
    ·rw [decide_eq_true c2]
     have hl : (x :: tl).length < 1073741824 := by have := c2.1; omega
     simp only [Bool.not_true, AGw (x :: tl) (by simp) (by omega)]
     by_cases c3 : Gl (x :: tl) = x
     ·rw [decide_eq_true c3]
      simp only [Bool.not_true]
      rw [ATn n (x :: tl) (by simp) (by omega) hlr c2.2.2 (fun y hy => by simp at hy; rw [← hy]; exact c3)]
      by_cases c4 : TI n (x :: tl)
      ·rw [decide_eq_true c4]
       simp only [Bool.not_true, Ag]
       have hRG : RG n (x :: tl) := ⟨c2, by simp, c3, c4⟩
       rcases AA3 n (x :: tl) hl rings x rings (rings.length : Int) (i : Int) (x :: tl) x last false (x :: tl) true false (x :: tl) (Gl (x :: tl)) (x :: tl) x false n (x :: tl) true false (x :: tl).length 0 many met seen (by omega) hm (by rw [List.drop_zero]; exact c2.2.2) (by omega) with ⟨q1, met', q2, q3⟩ | ⟨q1, q2⟩
       ·rw [List.drop_zero] at q1 q3
        have q2' : AU C1 many (n, rings, met, x, rings, (rings.length : Int), (i : Int), x :: tl, x, last, false, x :: tl, true, false, x :: tl, Gl (x :: tl), x :: tl, x, false, n, x :: tl, true, false, x :: tl, ((x :: tl).length : Int), (0 : Int), ()) = _ := q2
        simp only [q2', AM (show i + 1 < 9223372036854775808 by omega)]
        rcases ih (i + 1) cnt met' x (seen ++ (x :: tl).filter (fun t => decide (t < n))) hd2 (by omega) q3 (by omega) with ⟨p1, met2, seen2, p2, p3, p4⟩ | ⟨p1, p2⟩
        ·refine .inl ⟨⟨hRG, by omega, q1, p1⟩, met2, seen2, p2, p3, fun v => ?_⟩
         rw [p4, List.mem_append, List.mem_filter, List.flatten_cons, List.mem_append]
         simp only [decide_eq_true_eq]
         constructor
         ·rintro ((h | h) | h)
          ·exact .inl h
          ·exact .inr ⟨h.2, .inl h.1⟩
          ·exact .inr ⟨h.1, .inr h.2⟩
         ·rintro (h | ⟨h, h2 | h2⟩)
          ·exact .inl (.inl h)
          ·exact .inl (.inr ⟨h2, h⟩)
          ·exact .inr ⟨h, h2⟩
        ·exact .inr ⟨fun h => p1 h.2.2.2, p2⟩
       ·rw [List.drop_zero] at q1
        have q2' : AU C1 many (n, rings, met, x, rings, (rings.length : Int), (i : Int), x :: tl, x, last, false, x :: tl, true, false, x :: tl, Gl (x :: tl), x :: tl, x, false, n, x :: tl, true, false, x :: tl, ((x :: tl).length : Int), (0 : Int), ()) = _ := q2
        simp only [q2']
        exact .inr ⟨fun h => q1 h.2.2.1, by trivial⟩
      ·rw [decide_eq_false c4]
       exact .inr ⟨fun h => c4 h.1.2.2.2, rfl⟩
     ·rw [decide_eq_false c3]
      exact .inr ⟨fun h => c3 h.1.2.2.1, rfl⟩
    ·rw [decide_eq_false c2]
     exact .inr ⟨fun h => c2 h.1.1, rfl⟩
theorem Lj (n : Int) (rings : List (List Int)) (hlen : rings.length < 1073741824) (hr : ∀ l ∈ rings, l.length < 9223372036854775808 ∧ ∀ x ∈ l, -9223372036854775808 ≤ x ∧ x ≤ 9223372036854775807) :
  Ll ((n, (rings, ())), ()) = some (decide (RF n rings), ()) := by
 have hmany : 4294967296 < many := by simp only [many]; omega
 rw [ZD, M6]
 simp only [IB]
 by_cases hS : Sz n
 ·rw [decide_eq_true hS]
  simp only [Bool.not_true, Ag, AP]
  rcases TM n rings hlen hr rings 0 many [] (-1) [] (by simp) (by omega) (fun t _ => by simp [Ac]) (by omega) with ⟨p1, met, seen, p2, p3, p4⟩ | ⟨p1, p2⟩
  ·have p2' : AU C2 many (n, rings, [], -1, rings, (rings.length : Int), (0 : Int), ()) = _ := p2
   simp only [p2']
   obtain ⟨s1, s2⟩ := hS
   obtain ⟨N, rfl⟩ := Int.eq_ofNat_of_zero_le (show 0 ≤ n by omega)
   have e := AXW (step := Dc) (fun i => (met, (N : Int), (i : Int), ())) N (fun i => decide ((i : Int) ∉ seen)) (fun _ => .inl (false, ())) (.inr (.inl ())) (by omega)
    (fun i hi => by
     have := p3 (i : Int) (by omega)
     rw [Dc, AL, decide_eq_true hi]
     simp only [this, Av]
     by_cases h : (i : Int) ∈ seen
     ·simp only [h, if_true, not_true]
      rw [AM (by omega)]; simp
     ·simp [h])
    (by rw [Dc, AL, decide_eq_false (by omega)])
   rw [Ag] at e
   have hv : ∀ v, v ∈ seen ↔ (v < (N : Int) ∧ v ∈ rings.flatten) := fun v => by rw [p4]; simp
   rcases e with ⟨k, k1, k2, _, k4⟩ | ⟨k1, k4⟩
   ·have k4' : AU Dc many (met, (N : Int), (0 : Int), ()) = _ := k4
    rw [k4', decide_eq_false]
    rintro ⟨_, _, h⟩
    simp only [decide_eq_true_eq] at k2
    exact k2 ((hv _).2 ⟨by omega, h (k : Int) (by omega) (by omega)⟩)
   ·have k4' : AU Dc many (met, (N : Int), (0 : Int), ()) = _ := k4
    rw [k4', decide_eq_true]
    refine ⟨⟨s1, s2⟩, p1, fun v v1 v2 => ?_⟩
    obtain ⟨k, rfl⟩ := Int.eq_ofNat_of_zero_le v1
    have := k1 k (by omega)
    simp only [decide_eq_false_iff_not, Classical.not_not] at this
    exact ((hv _).1 this).2
  ·have p2' : AU C2 many (n, rings, [], -1, rings, (rings.length : Int), (0 : Int), ()) = _ := p2
   simp only [p2']
   rw [decide_eq_false (fun h => p1 h.2.1)]
 ·rw [decide_eq_false hS, decide_eq_false (fun h => hS h.1)]; rfl
end Go.Pev.Pl
end
section
namespace Go.Pev.Pl
open Tok
theorem AJ3 {xs : List Int} (hr : Rt xs) (h : xs ≠ []) : plain xs = xs ↔ Gl xs = xs.headD 0 := by
 obtain ⟨a, b, h1, h2⟩ := Jm hr h
 constructor
 ·intro e
  rw [e] at h2
  rw [h2]
  have : Gl xs = Gl xs := rfl
  conv => lhs; rw [← h2]
  rfl
 ·intro e
  cases a with
  | nil => rw [h2, List.append_nil]; exact h1.symm
  | cons y a =>
   exfalso
   have hn := hr.2.2
   have hy : y = Gl xs := by rw [e, h1]; rfl
   rw [h1, List.cons_append, List.nodup_cons] at hn
   exact hn.1 (by rw [← hy]; simp)
theorem Oi {n : Int} {l : List Int} (h : RG n l) : In n (l.headD 0) := by
 obtain ⟨h1, h2, h3, h4⟩ := h
 cases l with
 | nil => exact absurd rfl h2
 | cons x l => exact ANx h4 h3
theorem AVh {n : Int} (hn : 1 ≤ n) : ∀ {ls : List (List Int)} {seen : List Int} {last : Int}, okR n seen last ls → -1 ≤ last → last < n → (ls.length : Int) ≤ n - 1 - last := by
 intro ls
 induction ls with
 | nil => intro seen last _ _ h; simp; omega
 | cons l ls ih =>
  intro seen last ⟨h1, h2, h3, h4⟩ hl hl2
  have hh := (Oi h1).2.2
  have := ih h4 (by omega) hh.2
  simp only [List.length_cons]
  omega
end Go.Pev.Pl
end
section
namespace Go.Pev.Pl
open Tok
def hd (l : List Int) : Int := l.headD 0
def Dis (n : Int) (a b : List Int) : Prop := ∀ t ∈ a, t < n → t ∉ b
structure FR (n : Int) (rings : List (List Int)) : Prop where
 sz : Sz n
 rg : ∀ l ∈ rings, RG n l
 up : rings.Pairwise (fun a b => hd a < hd b)
 dis : rings.Pairwise (Dis n)
 cov : ∀ v, In n v → ∃ l ∈ rings, v ∈ l
theorem Dis.symm {n : Int} {a b : List Int} (h : Dis n a b) : Dis n b a := fun t ht hn ha => h t ha hn ht
theorem AND {n : Int} : ∀ {ls : List (List Int)} {seen : List Int} {last : Int}, okR n seen last ls ↔ (∀ l ∈ ls, RG n l ∧ last < hd l ∧ ∀ t ∈ l, t < n → t ∉ seen) ∧ ls.Pairwise (fun a b => hd a < hd b) ∧ ls.Pairwise (Dis n) := by
 intro ls
 induction ls with
 | nil => intro seen last; simp [okR]
 | cons l ls ih =>
  intro seen last
  rw [okR, ih, List.pairwise_cons, List.pairwise_cons]
  constructor
  ·rintro ⟨h1, h2, h3, h4, h5, h6⟩
   refine ⟨fun k hk => ?_, ⟨fun k hk => (h4 k hk).2.1, h5⟩, ⟨fun k hk t ht htn htk => ?_, h6⟩⟩
   ·rcases List.mem_cons.1 hk with rfl | hk
    ·exact ⟨h1, h2, h3⟩
    ·obtain ⟨q1, q2, q3⟩ := h4 k hk
     exact ⟨q1, Int.lt_trans h2 q2, fun t ht htn hts => q3 t ht htn (by simp [hts])⟩
   ·exact (h4 k hk).2.2 t htk htn (by simp [ht, htn])
  ·rintro ⟨h1, ⟨h2, h3⟩, ⟨h4, h5⟩⟩
   obtain ⟨q1, q2, q3⟩ := h1 l (by simp)
   refine ⟨q1, q2, q3, fun k hk => ?_, h3, h5⟩
   obtain ⟨p1, p2, p3⟩ := h1 k (by simp [hk])
   refine ⟨p1, h2 k hk, fun t ht htn hts => ?_⟩
   simp only [List.mem_append, List.mem_filter] at hts
   rcases hts with h | h
   ·exact p3 t ht htn h
   ·exact h4 k hk t h.1 htn ht
theorem Xg {n : Int} {rings : List (List Int)} : RF n rings ↔ FR n rings := by
 constructor
 ·rintro ⟨h1, h2, h3⟩
  obtain ⟨q1, q2, q3⟩ := AND.1 h2
  refine ⟨h1, fun l hl => (q1 l hl).1, q2, q3, fun v hv => ?_⟩
  obtain ⟨l, hl, h⟩ := List.mem_flatten.1 (h3 v hv.2.2.1 hv.2.2.2)
  exact ⟨l, hl, h⟩
 ·rintro ⟨h1, h2, h3, h4, h5⟩
  refine ⟨h1, AND.2 ⟨fun l hl => ⟨h2 l hl, ?_, by simp⟩, h3, h4⟩, fun v v1 v2 => ?_⟩
  ·have := (Oi (h2 l hl)).2.2.1
   show (-1 : Int) < l.headD 0
   omega
  ·obtain ⟨l, hl, h⟩ := h5 v ⟨h1.1, h1.2, v1, v2⟩
   exact List.mem_flatten.2 ⟨l, hl, h⟩
theorem AFO {ys zs : List (List Int)} (hz : zs.Pairwise (fun a b => hd a < hd b)) (hp : ys.Perm zs) (hy : ys.Pairwise (fun a b => ¬ hd b < hd a)) : ys = zs := by
 have hinj : ∀ a ∈ zs, ∀ b ∈ zs, hd a = hd b → a = b := by
  intro a ha b hb e
  refine Classical.byContradiction fun hne => ?_
  obtain ⟨i, hi, rfl⟩ := List.getElem_of_mem ha
  obtain ⟨j, hj, rfl⟩ := List.getElem_of_mem hb
  rw [List.pairwise_iff_getElem] at hz
  rcases Nat.lt_trichotomy i j with h | h | h
  ·have := hz i j hi hj h; omega
  ·subst h; exact hne rfl
  ·have := hz j i hj hi h; omega
 refine List.Perm.eq_of_pairwise (le := fun a b => ¬ hd b < hd a) ?_ hy ?_ hp
 ·intro a b ha hb h1 h2
  exact hinj a (hp.mem_iff.1 ha) b hb (by omega)
 ·exact hz.imp fun h => by omega
def plc (rings : List (List Int)) (v : Int) : Int := if rings.any (fun l => decide (v ∈ l)) then ((rings.findIdx (fun l => decide (v ∈ l)) : Nat) : Int) else -1
theorem Lm (n : Int) (rings : List (List Int)) (v : Int) (hlen : rings.length < 1073741824) (hr : ∀ l ∈ rings, l.length < 9223372036854775808) : Ln ((n, (rings, ())), v, ()) = some (plc rings v, ()) := by
 rw [ZE, M7, G1, C9]
 have e := OG (step := BQ) (fun i => (v, rings, AQ rings, (i : Int), ())) rings (fun l => decide (v ∈ l)) (fun i => .inl (v, (i : Int), ())) (.inr (.inl (v, ()))) (by omega)
  (fun i l hi hx => by
   have hl := hr l (List.mem_of_getElem? hx)
   rw [BQ, AP, AL, decide_eq_true hi]
   simp only [AY hx, Ha l v (by omega)]
   rw [AM (by omega)]
   by_cases h : v ∈ l
   ·rw [decide_eq_true h]; rfl
   ·rw [decide_eq_false h]; rfl)
  (by rw [BQ, AP, AL, decide_eq_false (by omega)])
 have e' : AR BQ many (v, rings, AQ rings, (0 : Int), ()) = _ := e
 simp only [e', plc]
 cases rings.any (fun l => decide (v ∈ l)) <;> rfl
theorem Vf {rings : List (List Int)} {v : Int} (h : ∃ l ∈ rings, v ∈ l) : ∃ k l, plc rings v = ((k : Nat) : Int) ∧ rings[k]? = some l ∧ v ∈ l ∧ k < rings.length := by
 obtain ⟨l, hl, hv⟩ := h
 have hany : rings.any (fun l => decide (v ∈ l)) = true := List.any_eq_true.2 ⟨l, hl, by simpa using hv⟩
 have hk : rings.findIdx (fun l => decide (v ∈ l)) < rings.length := List.findIdx_lt_length.2 ⟨l, hl, by simpa using hv⟩
 refine ⟨_, rings[rings.findIdx (fun l => decide (v ∈ l))], by rw [plc, if_pos hany], by rw [List.getElem?_eq_getElem hk], ?_, hk⟩
 have := List.findIdx_getElem (xs := rings) (p := fun l => decide (v ∈ l)) (w := hk)
 simpa using this
theorem FR.uniq {n : Int} {rings : List (List Int)} (h : FR n rings) {i j : Nat} {a b : List Int} {v : Int} (hi : rings[i]? = some a) (hj : rings[j]? = some b) (hn : v < n) (ha : v ∈ a) (hb : v ∈ b) : i = j := by
 obtain ⟨hi1, rfl⟩ := List.getElem?_eq_some_iff.1 hi
 obtain ⟨hj1, rfl⟩ := List.getElem?_eq_some_iff.1 hj
 have hd := List.pairwise_iff_getElem.1 h.dis
 rcases Nat.lt_trichotomy i j with g | g | g
 ·exact absurd hb (hd i j hi1 hj1 g v ha hn)
 ·exact g
 ·exact absurd ha (hd j i hj1 hi1 g v hb hn)
theorem FR.ASe {n : Int} {rings : List (List Int)} (h : FR n rings) {k : Nat} {a : List Int} {v : Int} (hk : rings[k]? = some a) (hn : v < n) (ha : v ∈ a) : plc rings v = (k : Int) := by
 obtain ⟨j, l, e, hj, hv, _⟩ := Vf ⟨a, List.mem_of_getElem? hk, ha⟩
 rw [e, h.uniq hj hk hn hv ha]
theorem XB {α : Type} {l : List α} {i : Nat} {a : α} (h : l[i]? = some a) : l.Perm (a :: l.eraseIdx i) := by
 obtain ⟨hi, rfl⟩ := List.getElem?_eq_some_iff.1 h
 rw [List.eraseIdx_eq_take_drop_succ]
 conv => lhs; rw [← List.take_append_drop i l, List.drop_eq_getElem_cons hi]
 exact List.perm_middle
theorem RR {α : Type} {l : List α} {i j : Nat} {a b : α} (hij : i < j) (hi : l[i]? = some a) (hj : l[j]? = some b) : l.Perm (a :: b :: (l.eraseIdx j).eraseIdx i) := by
 have h1 := XB hj
 have h2 : (l.eraseIdx j)[i]? = some a := by rw [List.getElem?_eraseIdx_of_lt hij, hi]
 exact h1.trans (((XB h2).cons b).trans (List.Perm.swap a b _))
theorem APd {n : Int} {t : Tok} (h : okT n t) : 0 ≤ Ef n t ∧ Ef n t ≤ 4160 ∧ Ef n t < n * (n + 1) := by
 cases t with
 | ver v =>
  obtain ⟨h1, h2, h3, h4⟩ := h
  have : n * 1 ≤ n * (n + 1) := Int.mul_le_mul_of_nonneg_left (by omega) (by omega)
  simp only [Ef]; omega
 | arc u v =>
  obtain ⟨h1, h2, _⟩ := h
  obtain ⟨g1, g2, _⟩ := Sw h1 h2
  have hb := Ic (u := n + 1 - 1) h1.1 h1.2.1 (by have := h1.1; omega) (by have := h1.2.1; omega)
  have e : n * (n + 1) = n * (n + 1 - 1) + n := by rw [show n + 1 - 1 = n by omega, Int.mul_add, Int.mul_one]
  have := h1.1
  have := h1.2.1
  simp only [Ef]
  omega
theorem AW4 {n : Int} {t : Tok} (h : okT n t) : Sz n := by
 cases t with
 | ver v => exact ⟨h.1, h.2.1⟩
 | arc u v => exact ⟨h.1.1, h.1.2.1⟩
theorem Li : ∀ {L : List Tok}, L.Nodup → (JL L).Nodup
 | [], _ => by simp [JL]
 | .ver v :: L, h => by
  rw [List.nodup_cons] at h
  rw [JL, List.nodup_cons]
  exact ⟨fun hm => h.1 (Nr.1 hm), Li h.2⟩
 | .arc _ _ :: L, h => by
  rw [List.nodup_cons] at h
  rw [JL]
  exact Li h.2
theorem AWn {n : Int} {xs : List Int} (h : TI n xs) : Rt xs := by
 obtain ⟨L, rfl, h2, h3⟩ := h
 have hn := h3.nodup
 refine ⟨?_, fun x hx => ?_, ?_⟩
 ·obtain ⟨v, r, hr⟩ := h3.AHr
  have hS : Sz n := AW4 (h2 (.ver v) ((hr.mem _).2 (by simp)))
  have hl := h3.len
  have hv := Eu (a := JL L) (b := (List.range n.toNat).map (fun (k : Nat) => (k : Int))) (Li hn) fun x hx => by
   have := h2 _ (Nr.1 hx)
   have h5 := this.2.2
   rw [List.mem_map]
   exact ⟨x.toNat, by rw [List.mem_range]; omega, by omega⟩
  have h6 := hS.2
  simp only [List.length_map, List.length_range] at hv ⊢
  omega
 ·obtain ⟨t, ht, rfl⟩ := List.mem_map.1 hx
  have := APd (h2 t ht)
  omega
 ·rw [List.Nodup, List.pairwise_map]
  exact hn.imp_of_mem fun ha hb hne e => hne (OM (h2 _ ha) (h2 _ hb) e)
def AEL (a b : List Int) : Prop := ∃ x y, a = x ++ y ∧ b = y ++ x
theorem AEL.perm {a b : List Int} (h : AEL a b) : a.Perm b := by
 obtain ⟨x, y, rfl, rfl⟩ := h
 exact List.perm_append_comm
theorem AEL.symm {a b : List Int} (h : AEL a b) : AEL b a := by obtain ⟨x, y, h1, h2⟩ := h; exact ⟨y, x, h2, h1⟩
theorem AUf {n : Int} {a b : List Int} (h : TI n a) (r : AEL a b) : TI n b := by
 obtain ⟨L, h1, h2, h3⟩ := h
 obtain ⟨x, y, rfl, rfl⟩ := r
 obtain ⟨L1, L2, rfl, e1, e2⟩ := List.map_eq_append_iff.1 h1.symm
 refine ⟨L2 ++ L1, by rw [List.map_append, e1, e2], fun t ht => h2 t ?_, T.rot L1 L2 h3⟩
 simp only [List.mem_append] at ht ⊢
 exact ht.symm
theorem Cn {xs : List Int} {t : Int} (h : t ∈ xs) : AEL xs (Bf xs t) := by
 obtain ⟨a, b, e1, _, e3⟩ := VU h
 exact ⟨a, t :: b, e1, by rw [e3]⟩
theorem APj {xs ys : List Int} (h : xs.Perm ys) (hne : xs ≠ []) : Gl ys = Gl xs := by
 obtain ⟨h1, h2⟩ := EP hne
 exact AVj (h.mem_iff.1 h1) fun x hx => h2 x (h.mem_iff.2 hx)
theorem AJ4 {xs : List Int} (hr : Rt xs) (hne : xs ≠ []) : AEL xs (plain xs) := by
 rw [plain, if_pos ⟨hr, hne⟩]
 exact Cn (EP hne).1
theorem AWm {n : Int} {xs : List Int} (h : TI n xs) : xs ≠ [] := by rintro rfl; exact AXN n h
theorem AII {n : Int} {xs : List Int} (h : TI n xs) : RG n (plain xs) ∧ AEL xs (plain xs) := by
 have hr := AWn h
 have hne := AWm h
 have h1 := AJ4 hr hne
 have h2 := AUf h h1
 refine ⟨⟨AWn h2, AWm h2, ?_, h2⟩, h1⟩
 rw [APj h1.perm hne]
 obtain ⟨a, b, _, e⟩ := Jm hr hne
 rw [e]; rfl
theorem RG.self {n : Int} {xs : List Int} (h : RG n xs) : plain xs = xs := (AJ3 h.1 h.2.1).2 h.2.2.1
theorem AIE {n : Int} {xs : List Int} (h : TI n xs) {t : Tok} (ht : okT n t) (hx : Ef n t ∈ xs) : ∃ a, Bf xs (Ef n t) = (t :: a).map (Ef n) ∧ T (t :: a) ∧ (∀ y ∈ t :: a, okT n y) := by
 have h1 := AUf h (Cn hx)
 obtain ⟨a, b, e1, e2, e3⟩ := VU hx
 obtain ⟨L, q1, q2, q3⟩ := h1
 rw [e3, List.cons_append] at q1
 cases L with
 | nil => cases q1
 | cons t' L =>
  simp only [List.map_cons, List.cons.injEq] at q1
  have := OM ht (q2 t' (by simp)) q1.1
  subst this
  exact ⟨L, by rw [e3, List.cons_append, List.map_cons, q1.2], q3, q2⟩
end Go.Pev.Pl
end
section
namespace Go.Pev.Pl
open Go.RowKit Tok
theorem AHA (a : Int) : ieq a a = true := by rw [HS]; simp
def Dom (rings : List (List Int)) : Prop := rings.length < 1073741824 ∧ ∀ l ∈ rings, l.length < 9223372036854775808 ∧ ∀ x ∈ l, -9223372036854775808 ≤ x ∧ x ≤ 9223372036854775807
theorem FR.dom {n : Int} {rings : List (List Int)} (h : FR n rings) : Dom rings := by
 have h1 := Xg.2 h
 have h2 := AVh h.sz.1 h1.2.1 (by omega) (by have := h.sz.1; omega)
 have h3 := h.sz.2
 refine ⟨by omega, fun l hl => ?_⟩
 have := (h.rg l hl).1
 exact ⟨by have := this.1; omega, fun x hx => by have := this.2.1 x hx; omega⟩
theorem ADI {l : List Int} (h : l ≠ []) : hd l ∈ l := by
 cases l with
 | nil => exact absurd rfl h
 | cons x l => simp [hd]
end Go.Pev.Pl
end
section
namespace Go.Pev.Pl
open Tok
noncomputable def AWX (n : Int) (rings : List (List Int)) (ok : Bool) : Int := if RF n rings then if ok then 0 else 10 else 1
theorem ALt (n : Int) (rings : List (List Int)) (xs : List Int) (hs : xs.length < 9223372036854775808) : CS (xs, n, rings, ()) = some (n, rings, xs.any (fun x => decide (x < 0) || decide (n ≤ x)), ()) := by
 rw [GY, Cd, G4, DA]
 have e := OG (step := BR) (fun i => (n, rings, xs, AQ xs, (i : Int), ())) xs (fun x => decide (x < 0) || decide (n ≤ x)) (fun i => .inl (n, rings, (i : Int), ())) (.inr (.inl (n, rings, ()))) hs
  (fun i x hi hx => by
   rw [BR, AP, AL, decide_eq_true hi]
   simp only [AY hx, Aj, A2]
   rw [AM (by omega)]
   by_cases h : x < 0
   ·simp [h]
   ·by_cases h2 : n ≤ x
    ·simp [h, h2]
    ·simp [h, h2])
  (by rw [BR, AP, AL, decide_eq_false (by omega)])
 have e' : AR BR many (n, rings, xs, AQ xs, (0 : Int), ()) = _ := e
 rw [e']
 generalize (xs.any fun x => decide (x < 0) || decide (n ≤ x)) = b
 cases b <;> simp [A2]
theorem AXP {n v : Int} (hS : Sz n) : (decide (v < 0) || decide (n ≤ v)) = !decide (In n v) := by
 by_cases h : In n v
 ·obtain ⟨_, _, h3, h4⟩ := h
  simp [In, hS.1, hS.2, h3, h4]
 ·have : v < 0 ∨ n ≤ v := by
   refine Classical.byContradiction fun hc => h ⟨hS.1, hS.2, by omega, by omega⟩
  rcases this with g | g <;> simp [h, g]
theorem W0 (n : Int) (rings : List (List Int)) (xs : List Int) (hD : Dom rings) (hs : xs.length < 9223372036854775808) : Il ((n, (rings, ())), xs, ()) = some (AWX n rings (xs.all fun v => decide (In n v)), ()) := by
 rw [AAK, OE]
 simp only [Lj n rings hD.1 hD.2, ALt n rings xs hs, AWX]
 by_cases h : RF n rings
 ·have hb : (xs.any fun x => decide (x < 0) || decide (n ≤ x)) = !(xs.all fun v => decide (In n v)) := by
   rw [List.not_all_eq_any_not]
   congr 1
   funext x
   exact AXP h.1
  simp only [h, decide_true, Bool.not_true, hb, if_true]
  cases xs.all fun v => decide (In n v) <;> rfl
 ·simp [h]
end Go.Pev.Pl
end
section
namespace Go.Pev.Pl.SG
open Go.Sort
structure SP (α : Type) where
 z : α
 c : α × α × Unit → Option (Int × Unit)
 ok : α → Prop
 okz : α
 WJ : ok okz
 lt : α → α → Bool
 swo : SWO lt
 ADr : ∀ {x y : α}, ok x → ok y → ∃ r, c (x, y, ()) = some (r, ()) ∧ ilt r (0 : Int) = lt x y
variable {α : Type} {S : SP α}
abbrev EL {α : Type} (S : SP α) := {x : α // S.ok x}
instance : Inhabited (EL S) := ⟨⟨S.okz, S.WJ⟩⟩
def rep (d : Array (EL S)) : List α := d.toList.map Subtype.val
theorem Ar {d : Array (EL S)} {n : Nat} (h : n < d.size) : idx (rep d) (n : Int) = some (d[n]!).val := by
 rw [idx_eq, MS, if_neg (by omega)]
 simp [rep, h]
theorem BJ {d : Array (EL S)} {n : Nat} {z : α} (h : n < d.size) : AT (rep d) (AG (n : Int)) z = (d[n]!).val := by
 simp [AT, AG, rep, h]
theorem G8 {d : Array (EL S)} {n : Nat} {x : (EL S)} : Ak (rep d) (AG (n : Int)) x.val = rep (d.setIfInBounds n x) := by
 simp [Ak, AG, rep, List.map_set]
theorem ANq {d : Array (EL S)} : AQ (rep d) = (d.size : Int) := by simp [AQ, rep]
def ltX (x y : (EL S)) : Bool := S.lt x.val y.val
theorem ARl : SWO (ltX (S := S)) := ⟨fun x => S.swo.irrefl x.val, fun x y z => S.swo.trans x.val y.val z.val, fun x y z => S.swo.ntrans x.val y.val z.val⟩
noncomputable def AWS (x y : (EL S)) : Int := match S.c (x.val, y.val, ()) with
 | some (c, _) => c
 | none => 0
theorem Bs (x y : (EL S)) : S.c (x.val, y.val, ()) = some (AWS x y, ()) := by
 obtain ⟨c, e, _⟩ := S.ADr x.property y.property
 rw [AWS, e]
theorem Cb (x y : (EL S)) : ilt (AWS x y) (0 : Int) = ltX x y := by
 obtain ⟨c, e, h⟩ := S.ADr x.property y.property
 rw [AWS, e]
 exact h
theorem AV6 (a b i : Nat) : ∀ (j : Nat) (d : Array (EL S)) (n : Nat), j < d.size → d.size < 4611686018427387904 → j < n →
  AU (Ew S.z S.c) n ((rep d), (a : Int), (b : Int), (i : Int), (j : Int), ()) = some (.inl ((rep (insInner ltX a j d)), (a : Int), (b : Int), (i : Int), ())) := by
 intro j
 induction j with
 | zero =>
  intro d n hj hs hn
  obtain ⟨n, rfl⟩ : ∃ k, n = k + 1 := ⟨n - 1, by omega⟩
  have h0 : ilt (a : Int) ((0 : Nat) : Int) = false := by rw [AL]; simp
  simp only [AU, Ew, h0, insInner]
 | succ j ih =>
  intro d n hj hs hn
  obtain ⟨n, rfl⟩ : ∃ k, n = k + 1 := ⟨n - 1, by omega⟩
  have e1 : IntKind.wrap .i64 (((j + 1 : Nat) : Int) - 1) = (j : Int) := by rw [Ah (by omega)]; omega
  have hj' : j < d.size := by omega
  simp only [AU, Ew, AL, e1, Ar hj, Ar hj', BJ hj, BJ hj', Bs, Cb, insInner, gt_iff_lt]
  by_cases h1 : a < j + 1
  ·cases h2 : ltX d[j + 1]! d[j]!
   ·simp only [h1, decide_true, h2, Bool.and_false, Bool.false_eq_true, if_false]
   ·simp only [h1, decide_true, h2, Bool.and_true, if_true, G8]
    rw [Ar (by simpa using hj')]
    simp only [Hh]
    exact ih (swp d (j + 1) j) n (by rw [size_swp]; omega) (by rw [size_swp]; omega) (by omega)
  ·simp only [h1, decide_false, Bool.false_and, Bool.false_eq_true, if_false]
theorem HM (lt : (EL S) → (EL S) → Bool) (a j : Nat) (d : Array (EL S)) : (insInner lt a j d).size = d.size := by
 induction j generalizing d with
 | zero => rfl
 | succ j ih =>
  rw [insInner]
  split
  ·rw [ih, size_swp]
  ·rfl
theorem ATW (a b : Nat) : ∀ (k i : Nat) (d : Array (EL S)) (n : Nat), b - i = k → b ≤ d.size → d.size < 4611686018427387904 → d.size < many → k < n →
  AU (DN S.z S.c) n ((rep d), (a : Int), (b : Int), (i : Int), ()) = some (.inl ((rep (insOuter ltX a b i d)), ())) := by
 intro k
 induction k with
 | zero =>
  intro i d n hk hb hs hm hn
  obtain ⟨n, rfl⟩ : ∃ k, n = k + 1 := ⟨n - 1, by omega⟩
  have h0 : ¬ i < b := by omega
  rw [insOuter]
  simp only [AU, DN, AL, h0, decide_false, if_false]
 | succ k ih =>
  intro i d n hk hb hs hm hn
  obtain ⟨n, rfl⟩ : ∃ k, n = k + 1 := ⟨n - 1, by omega⟩
  have h0 : i < b := by omega
  have e1 : IntKind.wrap .i64 ((i : Int) + 1) = ((i + 1 : Nat) : Int) := by rw [Ah (by omega)]; omega
  rw [insOuter]
  simp only [AU, DN, AL, h0, decide_true, if_true, Ag]
  rw [AV6 a b i i d many (by omega) hs (by omega)]
  simp only [e1]
  exact ih (i + 1) _ n (by omega) (by rw [HM]; omega) (by rw [HM]; omega) (by rw [HM]; omega) (by omega)
theorem ATV (d : Array (EL S)) (a b : Nat) (hab : a ≤ b) (hb : b ≤ d.size) (hs : d.size < 4294967296) : (ATX S.z S.c) ((rep d), (a : Int), (b : Int), ()) = some ((rep (insertionSort ltX d a b)), ()) := by
 have hm : d.size < many := by simp only [many]; omega
 have e1 : IntKind.wrap .i64 ((a : Int) + 1) = ((a + 1 : Nat) : Int) := by rw [Ah (by omega)]; omega
 rw [AV7, MP]
 simp only [e1, Ag]
 rw [ATW a b (b - (a + 1)) (a + 1) d many rfl hb (by omega) hm (by omega)]
 rfl
end Go.Pev.Pl.SG
end
end
section
section
namespace Go.Pev.Pl.SG
open Go.Sort
variable {α : Type} {S : SP α}
theorem AJP (hi first : Nat) : ∀ (k root : Nat) (d : Array (EL S)) (n : Nat), hi - root = k → root ≤ hi → first + hi ≤ d.size → d.size < 4294967296 → (hi = 0 ∨ root < hi) → k < n →
  AU (Je S.z S.c) n ((rep d), (hi : Int), (first : Int), (root : Int), ()) = some (.inl ((rep (siftDown ltX hi first root d)), ())) ∨
  AU (Je S.z S.c) n ((rep d), (hi : Int), (first : Int), (root : Int), ()) = some (.inr (.inl ((rep (siftDown ltX hi first root d)), ()))) := by
 intro k
 induction k using Nat.strongRecOn with
 | _ k ih =>
 intro root d n hk hr hf hs hz hn
 obtain ⟨n, rfl⟩ : ∃ k, n = k + 1 := ⟨n - 1, by omega⟩
 rw [siftDown]
 simp (disch := omega) only [AU, Je, AN7, AM, wrap_add, Cc, AL]
 by_cases h1 : hi ≤ 2 * root + 1
 ·simp only [h1, decide_true, ge_iff_le, dite_true, true_or]
 ·have i0 : first + root < d.size := by omega
  have i1 : first + (2 * root + 1) < d.size := by omega
  simp only [h1, decide_false, ge_iff_le, if_false, dite_false]
  simp (disch := omega) only [Ar, BJ, Bs, Cb]
  by_cases h2 : 2 * root + 1 + 1 < hi
  ·have i2 : first + (2 * root + 2) < d.size := by omega
   have i3 : 2 * root + 1 + 1 = 2 * root + 2 := by omega
   have i4 : first + (2 * root + 1) + 1 = first + (2 * root + 2) := by omega
   have h3 : 2 * root + 2 < hi := by omega
   simp only [i3, i4, h3, decide_true]
   simp (disch := omega) only [Ar, BJ, Bs, Cb, G8]
   cases h4 : ltX d[first + (2 * root + 1)]! d[first + (2 * root + 2)]!
   ·simp only [Bool.and_false, Bool.false_eq_true, if_false]
    cases h5 : ltX d[first + root]! d[first + (2 * root + 1)]!
    ·simp
    ·simp only [Bool.not_true, Bool.false_eq_true, if_false]
     rw [Ar (by simpa using i1)]
     simp only [Hh]
     exact ih (hi - (2 * root + 1)) (by omega) (2 * root + 1) _ n rfl (by omega) (by rw [size_swp]; omega) (by rw [size_swp]; omega) (by omega) (by omega)
   ·simp only [Bool.and_true, if_true]
    cases h5 : ltX d[first + root]! d[first + (2 * root + 2)]!
    ·simp
    ·simp only [Bool.not_true, Bool.false_eq_true, if_false, dite_true]
     rw [Ar (by simpa using i2)]
     simp only [Hh]
     exact ih (hi - (2 * root + 2)) (by omega) (2 * root + 2) _ n rfl (by omega) (by rw [size_swp]; omega) (by rw [size_swp]; omega) (by omega) (by omega)
  ·simp only [h2, decide_false, Bool.false_and, Bool.false_eq_true, if_false, G8]
   cases h5 : ltX d[first + root]! d[first + (2 * root + 1)]!
   ·simp
   ·simp only [Bool.not_true, Bool.false_eq_true, if_false]
    rw [Ar (by simpa using i1)]
    simp only [Hh]
    exact ih (hi - (2 * root + 1)) (by omega) (2 * root + 1) _ n rfl (by omega) (by rw [size_swp]; omega) (by rw [size_swp]; omega) (by omega) (by omega)
theorem Za (d : Array (EL S)) (root hi first : Nat) (hf : first + hi ≤ d.size) (hs : d.size < 4294967296) (hz : hi = 0 ∧ root = 0 ∨ root < hi) : (AFl S.z S.c) ((rep d), (root : Int), (hi : Int), (first : Int), ()) = some ((rep (siftDown ltX hi first root d)), ()) := by
 have hm : d.size < many := by simp only [many]; omega
 rw [ASK, Sf]
 simp only [Ag]
 rcases AJP hi first (hi - root) root d many rfl (by omega) hf hs (by omega) (by omega) with h | h <;> rw [h]
theorem DF (lt : (EL S) → (EL S) → Bool) (hi first : Nat) : ∀ (k root : Nat) (d : Array (EL S)), hi - root = k → (siftDown lt hi first root d).size = d.size := by
 intro k
 induction k using Nat.strongRecOn with
 | _ k ih =>
 intro root d hk
 rw [siftDown]
 split
 ·rfl
 ·split
  ·split
   ·rfl
   ·split
    ·rw [ih (hi - (2 * root + 2)) (by omega) _ _ rfl, size_swp]
    ·rfl
  ·split
   ·rfl
   ·rw [ih (hi - (2 * root + 1)) (by omega) _ _ rfl, size_swp]
theorem AHK (hi first : Nat) : ∀ (k : Nat) (d : Array (EL S)) (n : Nat), (hi = 0 ∧ k ≤ 1 ∨ k ≤ hi) → first + hi ≤ d.size → d.size < 4294967296 → k < n →
  AU (J6 S.z S.c) n ((rep d), (first : Int), (0 : Int), (hi : Int), (k : Int) - 1, ()) = some (.inl ((rep (heapBuild ltX hi first k d)), (first : Int), (0 : Int), (hi : Int), ())) := by
 intro k
 induction k with
 | zero =>
  intro d n hk hf hs hn
  obtain ⟨n, rfl⟩ : ∃ k, n = k + 1 := ⟨n - 1, by omega⟩
  rw [AU, J6, A2, decide_eq_false (by omega)]
  rfl
 | succ k ih =>
  intro d n hk hf hs hn
  obtain ⟨n, rfl⟩ : ∃ k, n = k + 1 := ⟨n - 1, by omega⟩
  have e0 : ((k + 1 : Nat) : Int) - 1 = (k : Int) := by omega
  rw [AU, J6, e0, A2, decide_eq_true (by omega)]
  simp only [Za d k hi first hf hs (by omega)]
  rw [Ah (by omega)]
  exact ih _ n (by omega) (by rw [DF _ _ _ _ _ _ rfl]; omega) (by rw [DF _ _ _ _ _ _ rfl]; omega) (by omega)
theorem Jd (lt : (EL S) → (EL S) → Bool) (hi first : Nat) : ∀ (k : Nat) (d : Array (EL S)), (heapBuild lt hi first k d).size = d.size := by
 intro k
 induction k with
 | zero => intro d; rfl
 | succ k ih => intro d; rw [heapBuild, ih, DF _ _ _ _ _ _ rfl]
theorem AQG (first : Nat) : ∀ (k : Nat) (d : Array (EL S)) (n : Nat), first + k ≤ d.size → d.size < 4294967296 → k < n →
  AU (J5 S.z S.c) n ((rep d), (first : Int), (0 : Int), (k : Int) - 1, ()) = some (.inl ((rep (heapPop ltX first k d)), ())) := by
 intro k
 induction k with
 | zero =>
  intro d n hf hs hn
  obtain ⟨n, rfl⟩ : ∃ k, n = k + 1 := ⟨n - 1, by omega⟩
  rw [AU, J5, A2, decide_eq_false (by omega)]
  rfl
 | succ k ih =>
  intro d n hf hs hn
  obtain ⟨n, rfl⟩ : ∃ k, n = k + 1 := ⟨n - 1, by omega⟩
  have e0 : ((k + 1 : Nat) : Int) - 1 = (k : Int) := by omega
  have i0 : first < d.size := by omega
  have i1 : first + k < d.size := by omega
  rw [AU, J5, e0, A2, decide_eq_true (by omega)]
  simp (disch := omega) only [wrap_add, Ar, BJ, G8]
  rw [Ar (by simpa using i1)]
  simp only [Hh]
  have := Za (swp d first (first + k)) 0 k first (by rw [size_swp]; omega) (by rw [size_swp]; omega) (by omega)
  simp only [Int.natCast_zero] at this
  simp only [this]
  rw [Ah (by omega)]
  exact ih _ n (by rw [DF _ _ _ _ _ _ rfl, size_swp]; omega) (by rw [DF _ _ _ _ _ _ rfl, size_swp]; omega) (by omega)
theorem AQF (d : Array (EL S)) (a b : Nat) (hab : a < b) (hb : b ≤ d.size) (hs : d.size < 4294967296) : (ANb S.z S.c) ((rep d), (a : Int), (b : Int), ()) = some ((rep (heapSort ltX d a b)), ()) := by
 have hm : 4294967296 < many := by simp only [many]; omega
 rw [ATk, Sr]
 simp (disch := omega) only [A5, Ap, AXY, Ag]
 have e : (((b - a - 1) / 2 : Nat) : Int) = (((b - a - 1) / 2 + 1 : Nat) : Int) - 1 := by omega
 rw [e, AHK (b - a) a _ d many (by omega) (by omega) hs (by omega)]
 have e2 : (((b - a - 1 : Nat)) : Int) = ((b - a : Nat) : Int) - 1 := by omega
 simp (disch := omega) only [Ap, e2]
 rw [AQG a (b - a) _ many (by rw [Jd]; omega) (by rw [Jd]; omega) (by omega)]
 rfl
end Go.Pev.Pl.SG
end
section
namespace Go.Pev.Pl.SG
open Go.Sort
variable {α : Type} {S : SP α}
theorem APF : ∀ (k i j : Nat) (d : Array (EL S)) (n : Nat), j - i = k → (j < d.size) → d.size < 4294967296 → k < n →
  AU (Si S.z S.c) n ((rep d), (i : Int), (j : Int), ()) = some (.inl ((rep (reverseLoop i j d)), ())) := by
 intro k
 induction k using Nat.strongRecOn with
 | _ k ih =>
 intro i j d n hk hj hs hn
 obtain ⟨n, rfl⟩ : ∃ k, n = k + 1 := ⟨n - 1, by omega⟩
 rw [reverseLoop, AU, Si]
 simp only [AL]
 by_cases h : i < j
 ·have hi : i < d.size := by omega
  simp only [h, decide_true, if_true, Ar hj, Ar hi, BJ hi, BJ hj, G8]
  rw [Ar (by simpa using hj)]
  simp (disch := omega) only [Hh, AM, Ap]
  exact ih (j - 1 - (i + 1)) (by omega) (i + 1) (j - 1) _ n rfl (by rw [size_swp]; omega) (by rw [size_swp]; omega) (by omega)
 ·simp only [h, decide_false, if_false]
theorem ASY (d : Array (EL S)) (a b : Nat) (hab : a < b) (hb : b ≤ d.size) (hs : d.size < 4294967296) : (AVT S.z S.c) ((rep d), (a : Int), (b : Int), ()) = some ((rep (reverseRange d a b)), ()) := by
 have hm : 4294967296 < many := by simp only [many]; omega
 rw [AVS, ACJ]
 simp (disch := omega) only [Ap, Ag]
 rw [APF (b - 1 - a) a (b - 1) d many rfl (by omega) hs (by omega)]
 rfl
theorem DD {d : Array (EL S)} {i j : Nat} (hi : i < d.size) (hj : j < d.size) : idx (Ak (rep d) (AG (i : Int)) (AT (rep d) (AG (j : Int)) S.z)) (j : Int) = some ((d.setIfInBounds i d[j]!)[j]!).val ∧
  Ak (Ak (rep d) (AG (i : Int)) (AT (rep d) (AG (j : Int)) S.z)) (AG (j : Int)) (AT (rep d) (AG (i : Int)) S.z) = (rep (swp d i j)) := by
 rw [BJ hi, BJ hj, G8, G8]
 exact ⟨Ar (by simpa using hj), rfl⟩
theorem AB9 (step : List α × Int × Int × Int × Unit → Option ((List α × Int × Int × Int × Unit) ⊕ (List α × Int × Int × Int × Unit) ⊕ Unit)) (p : (EL S) → Bool) (d : Array (EL S)) (a j : Nat) (hs : d.size < 4294967296) (hj : j < d.size)
  (h : ∀ i : Nat, i ≤ d.size → step ((rep d), (a : Int), (i : Int), (j : Int), ()) = if i ≤ j ∧ p d[i]! then some (.inl ((rep d), (a : Int), ((i + 1 : Nat) : Int), (j : Int), ())) else some (.inr (.inl ((rep d), (a : Int), (i : Int), (j : Int), ())))) :
  ∀ (k i n : Nat), j + 1 - i = k → i ≤ d.size → k < n → AU step n ((rep d), (a : Int), (i : Int), (j : Int), ()) = some (.inl ((rep d), (a : Int), ((scanUp p d j i : Nat) : Int), (j : Int), ())) := by
 intro k
 induction k using Nat.strongRecOn with
 | _ k ih =>
 intro i n hk hi hn
 obtain ⟨n, rfl⟩ : ∃ k, n = k + 1 := ⟨n - 1, by omega⟩
 rw [scanUp, AU, h i hi]
 by_cases h1 : i ≤ j ∧ p d[i]! = true
 ·rw [if_pos h1, if_pos (by simpa using h1)]
  exact ih (j + 1 - (i + 1)) (by omega) (i + 1) n rfl (by omega) (by omega)
 ·rw [if_neg h1, if_neg (by simpa using h1)]
theorem Pc (step : List α × Int × Int × Int × Unit → Option ((List α × Int × Int × Int × Unit) ⊕ (List α × Int × Int × Int × Unit) ⊕ Unit)) (p : (EL S) → Bool) (d : Array (EL S)) (a i : Nat) (hi : 1 ≤ i)
  (h : ∀ j : Nat, j < d.size → step ((rep d), (a : Int), (i : Int), (j : Int), ()) = if i ≤ j ∧ p d[j]! then some (.inl ((rep d), (a : Int), (i : Int), ((j - 1 : Nat) : Int), ())) else some (.inr (.inl ((rep d), (a : Int), (i : Int), (j : Int), ())))) :
  ∀ (j n : Nat), j < d.size → j < n → AU step n ((rep d), (a : Int), (i : Int), (j : Int), ()) = some (.inl ((rep d), (a : Int), (i : Int), ((scanDown p d i j : Nat) : Int), ())) := by
 intro j
 induction j with
 | zero =>
  intro n hj hn
  obtain ⟨n, rfl⟩ : ∃ k, n = k + 1 := ⟨n - 1, by omega⟩
  rw [AU, h 0 hj, if_neg (by omega)]
  rfl
 | succ j ih =>
  intro n hj hn
  obtain ⟨n, rfl⟩ : ∃ k, n = k + 1 := ⟨n - 1, by omega⟩
  rw [scanDown, AU, h (j + 1) hj]
  by_cases h1 : i ≤ j + 1 ∧ p d[j + 1]! = true
  ·rw [if_pos h1, if_pos (by simpa using h1)]
   exact ih n (by omega) (by omega)
  ·rw [if_neg h1, if_neg (by simpa using h1)]
section
variable (d : Array (EL S)) (a i j : Nat) (hs : d.size < 4294967296) (ha : a < d.size) (hj : j < d.size)
include hs ha hj
theorem AGn (hi : i ≤ d.size) : (Np S.z S.c) ((rep d), (a : Int), (i : Int), (j : Int), ()) = if i ≤ j ∧ (fun x => ltX x d[a]!) d[i]! = true then some (.inl ((rep d), (a : Int), ((i + 1 : Nat) : Int), (j : Int), ())) else some (.inr (.inl ((rep d), (a : Int), (i : Int), (j : Int), ()))) := by
 rw [Np]
 simp only [Cc]
 by_cases h : i ≤ j
 ·have hi' : i < d.size := by omega
  simp (disch := omega) only [h, decide_true, Ar, BJ, Bs, Cb, AM, true_and]
  cases ltX d[i]! d[a]! <;> simp
 ·simp only [h, decide_false, false_and, if_false]
theorem AGl (hi : i ≤ d.size) : (Nm S.z S.c) ((rep d), (a : Int), (i : Int), (j : Int), ()) = if i ≤ j ∧ (fun x => ltX x d[a]!) d[i]! = true then some (.inl ((rep d), (a : Int), ((i + 1 : Nat) : Int), (j : Int), ())) else some (.inr (.inl ((rep d), (a : Int), (i : Int), (j : Int), ()))) := by
 rw [Nm]
 simp only [Cc]
 by_cases h : i ≤ j
 ·have hi' : i < d.size := by omega
  simp (disch := omega) only [h, decide_true, Ar, BJ, Bs, Cb, AM, true_and]
  cases ltX d[i]! d[a]! <;> simp
 ·simp only [h, decide_false, false_and, if_false]
theorem AGm (hi : 1 ≤ i) : (No S.z S.c) ((rep d), (a : Int), (i : Int), (j : Int), ()) = if i ≤ j ∧ (fun x => !ltX x d[a]!) d[j]! = true then some (.inl ((rep d), (a : Int), (i : Int), ((j - 1 : Nat) : Int), ())) else some (.inr (.inl ((rep d), (a : Int), (i : Int), (j : Int), ()))) := by
 rw [No]
 simp only [Cc]
 by_cases h : i ≤ j
 ·simp (disch := omega) only [h, decide_true, Ar, BJ, Bs, Cb, Ap, true_and]
  cases ltX d[j]! d[a]! <;> simp
 ·simp only [h, decide_false, false_and, if_false]
theorem AGk (hi : 1 ≤ i) : (Nl S.z S.c) ((rep d), (a : Int), (i : Int), (j : Int), ()) = if i ≤ j ∧ (fun x => !ltX x d[a]!) d[j]! = true then some (.inl ((rep d), (a : Int), (i : Int), ((j - 1 : Nat) : Int), ())) else some (.inr (.inl ((rep d), (a : Int), (i : Int), (j : Int), ()))) := by
 rw [Nl]
 simp only [Cc]
 by_cases h : i ≤ j
 ·simp (disch := omega) only [h, decide_true, Ar, BJ, Bs, Cb, Ap, true_and]
  cases ltX d[j]! d[a]! <;> simp
 ·simp only [h, decide_false, false_and, if_false]
theorem Yg (hi : i ≤ d.size) : (IX S.z S.c) ((rep d), (a : Int), (i : Int), (j : Int), ()) = if i ≤ j ∧ (fun x => !ltX d[a]! x) d[i]! = true then some (.inl ((rep d), (a : Int), ((i + 1 : Nat) : Int), (j : Int), ())) else some (.inr (.inl ((rep d), (a : Int), (i : Int), (j : Int), ()))) := by
 rw [IX]
 simp only [Cc]
 by_cases h : i ≤ j
 ·have hi' : i < d.size := by omega
  simp (disch := omega) only [h, decide_true, Ar, BJ, Bs, Cb, AM, true_and]
  cases ltX d[a]! d[i]! <;> simp
 ·simp only [h, decide_false, false_and, if_false]
theorem Yf (hi : 1 ≤ i) : (IW S.z S.c) ((rep d), (a : Int), (i : Int), (j : Int), ()) = if i ≤ j ∧ (fun x => ltX d[a]! x) d[j]! = true then some (.inl ((rep d), (a : Int), (i : Int), ((j - 1 : Nat) : Int), ())) else some (.inr (.inl ((rep d), (a : Int), (i : Int), (j : Int), ()))) := by
 rw [IW]
 simp only [Cc]
 by_cases h : i ≤ j
 ·simp (disch := omega) only [h, decide_true, Ar, BJ, Bs, Cb, Ap, true_and]
  cases ltX d[a]! d[j]! <;> simp
 ·simp only [h, decide_false, false_and, if_false]
end
theorem Jh (p : (EL S) → Bool) (d : Array (EL S)) (j i : Nat) (hj : j < d.size) (hi : i ≤ d.size) : scanUp p d j i ≤ d.size := by
 suffices h : ∀ (k i : Nat), j + 1 - i = k → i ≤ d.size → scanUp p d j i ≤ d.size from h _ i rfl hi
 intro k
 induction k using Nat.strongRecOn with
 | _ k ih =>
 intro i hk hi
 rw [scanUp]
 split
 ·rename_i h
  have : i ≤ j := by simp at h; exact h.1
  exact ih (j + 1 - (i + 1)) (by omega) (i + 1) rfl (by omega)
 ·exact hi
theorem AKH (a : Nat) : ∀ (k i j : Nat) (d : Array (EL S)) (n : Nat), j + 1 - i = k → a < d.size → 1 ≤ i → i ≤ d.size → j < d.size → d.size < 4294967296 → k < n →
  AU (Nn S.z S.c) n ((rep d), (a : Int), (i : Int), (j : Int), ()) = some (.inl ((rep (partLoop ltX a i j d).2), (a : Int), (((partLoop ltX a i j d).1 : Nat) : Int), ())) ∧ (partLoop ltX a i j d).1 ≤ j ∧ (partLoop ltX a i j d).2.size = d.size := by
 intro k
 induction k using Nat.strongRecOn with
 | _ k ih =>
 intro i j d n hk ha hi hi' hj hs hn
 have hm : 4294967296 < many := by simp only [many]; omega
 obtain ⟨n, rfl⟩ : ∃ k, n = k + 1 := ⟨n - 1, by omega⟩
 rw [partLoop_eq, AU, Nn]
 have u1 := scanUp_ge (fun x => ltX x d[a]!) d j i
 have u2 := Jh (fun x => ltX x d[a]!) d j i hj hi'
 rw [Ag, AB9 _ (fun x => ltX x d[a]!) d a j hs hj (fun i h => AGl d a i j hs ha hj h) _ i many rfl hi' (by omega)]
 generalize scanUp (fun x => ltX x d[a]!) d j i = i2 at *
 have v1 := scanDown_le (fun x => !ltX x d[a]!) d i2 j
 simp only [Ag]
 rw [Pc _ (fun x => !ltX x d[a]!) d a i2 (by omega) (fun j h => AGk d a i2 j hs ha h (by omega)) j many hj (by omega)]
 generalize scanDown (fun x => !ltX x d[a]!) d i2 j = j2 at *
 simp only [AL]
 by_cases h : j2 < i2
 ·simp only [h, decide_true, gt_iff_lt, if_true]
  exact ⟨trivial, v1, trivial⟩
 ·have hi2 : i2 < d.size := by omega
  have hj2 : j2 < d.size := by omega
  simp only [h, decide_false, gt_iff_lt, if_false, Ar hi2, Ar hj2, (DD hi2 hj2).1, (DD hi2 hj2).2]
  simp (disch := omega) only [AM, Ap]
  obtain ⟨q1, q2, q3⟩ := ih (j2 - 1 + 1 - (i2 + 1)) (by omega) (i2 + 1) (j2 - 1) (swp d i2 j2) n rfl (by rw [size_swp]; omega) (by omega) (by rw [size_swp]; omega) (by rw [size_swp]; omega) (by rw [size_swp]; omega) (by omega)
  exact ⟨q1, by omega, by rw [q3, size_swp]⟩
theorem APU (d : Array (EL S)) (a b p : Nat) (ha : a ≤ p) (hp : p < b) (hb : b ≤ d.size) (hs : d.size < 4294967296) :
  (Zw S.z S.c) ((rep d), (a : Int), (b : Int), (p : Int), ()) = some ((rep (partition ltX d a b p).2.2), (((partition ltX d a b p).1 : Nat) : Int), (partition ltX d a b p).2.1, ()) := by
 have hm : 4294967296 < many := by simp only [many]; omega
 have ha' : a < d.size := by omega
 have hp' : p < d.size := by omega
 rw [ASw, Sj, partition]
 simp only [Ar ha', Ar hp', (DD ha' hp').1, (DD ha' hp').2]
 have hs' := hs
 rw [← size_swp d a p] at ha' hs' hb
 generalize swp d a p = d at *
 simp (disch := omega) only [AM, Ap, Ag]
 have u1 := scanUp_ge (fun x => ltX x d[a]!) d (b - 1) (a + 1)
 have u2 := Jh (fun x => ltX x d[a]!) d (b - 1) (a + 1) (by omega) (by omega)
 rw [AB9 _ (fun x => ltX x d[a]!) d a (b - 1) hs' (by omega) (fun i h => AGn d a i (b - 1) hs' ha' (by omega) h) _ (a + 1) many rfl (by omega) (by omega)]
 generalize scanUp (fun x => ltX x d[a]!) d (b - 1) (a + 1) = i2 at *
 have v1 := scanDown_le (fun x => !ltX x d[a]!) d i2 (b - 1)
 simp only []
 rw [Pc _ (fun x => !ltX x d[a]!) d a i2 (by omega) (fun j h => AGm d a i2 j hs' ha' h (by omega)) (b - 1) many (by omega) (by omega)]
 generalize scanDown (fun x => !ltX x d[a]!) d i2 (b - 1) = j2 at *
 simp only [AL]
 have hj2 : j2 < d.size := by omega
 by_cases h : j2 < i2
 ·simp only [h, decide_true, gt_iff_lt, if_true, Ar ha', Ar hj2, (DD hj2 ha').1, (DD hj2 ha').2]
 ·have hi2 : i2 < d.size := by omega
  simp only [h, decide_false, gt_iff_lt, if_false, Ar hi2, Ar hj2, (DD hi2 hj2).1, (DD hi2 hj2).2]
  simp (disch := omega) only [AM, Ap]
  obtain ⟨q1, q2, q3⟩ := AKH a (j2 - 1 + 1 - (i2 + 1)) (i2 + 1) (j2 - 1) (swp d i2 j2) many rfl (by rw [size_swp]; omega) (by omega) (by rw [size_swp]; omega) (by rw [size_swp]; omega) (by rw [size_swp]; omega) (by omega)
  simp only [q1]
  rw [size_swp] at q3
  generalize partLoop ltX a (i2 + 1) (j2 - 1) (swp d i2 j2) = r at *
  have h1 : r.1 < r.2.size := by omega
  have h2 : a < r.2.size := by omega
  simp only [Ar h1, Ar h2, (DD h1 h2).1, (DD h1 h2).2]
theorem ACf (a : Nat) : ∀ (k i j : Nat) (d : Array (EL S)) (n : Nat), j + 1 - i = k → a < d.size → 1 ≤ i → i ≤ d.size → j < d.size → d.size < 4294967296 → k < n →
  AU (IY S.z S.c) n ((rep d), (a : Int), (i : Int), (j : Int), ()) = some (.inl ((rep (partEqLoop ltX a i j d).2), (((partEqLoop ltX a i j d).1 : Nat) : Int), ())) := by
 intro k
 induction k using Nat.strongRecOn with
 | _ k ih =>
 intro i j d n hk ha hi hi' hj hs hn
 have hm : 4294967296 < many := by simp only [many]; omega
 obtain ⟨n, rfl⟩ : ∃ k, n = k + 1 := ⟨n - 1, by omega⟩
 rw [partEqLoop_eq, AU, IY]
 have u1 := scanUp_ge (fun x => !ltX d[a]! x) d j i
 have u2 := Jh (fun x => !ltX d[a]! x) d j i hj hi'
 rw [Ag, AB9 _ (fun x => !ltX d[a]! x) d a j hs hj (fun i h => Yg d a i j hs ha hj h) _ i many rfl hi' (by omega)]
 generalize scanUp (fun x => !ltX d[a]! x) d j i = i2 at *
 have v1 := scanDown_le (fun x => ltX d[a]! x) d i2 j
 simp only [Ag]
 rw [Pc _ (fun x => ltX d[a]! x) d a i2 (by omega) (fun j h => Yf d a i2 j hs ha h (by omega)) j many hj (by omega)]
 generalize scanDown (fun x => ltX d[a]! x) d i2 j = j2 at *
 simp only [AL]
 by_cases h : j2 < i2
 ·simp only [h, decide_true, gt_iff_lt, if_true]
 ·have hi2 : i2 < d.size := by omega
  have hj2 : j2 < d.size := by omega
  simp only [h, decide_false, gt_iff_lt, if_false, Ar hi2, Ar hj2, (DD hi2 hj2).1, (DD hi2 hj2).2]
  simp (disch := omega) only [AM, Ap]
  exact ih (j2 - 1 + 1 - (i2 + 1)) (by omega) (i2 + 1) (j2 - 1) (swp d i2 j2) n rfl (by rw [size_swp]; omega) (by omega) (by rw [size_swp]; omega) (by rw [size_swp]; omega) (by rw [size_swp]; omega) (by omega)
theorem AGp (d : Array (EL S)) (a b p : Nat) (ha : a ≤ p) (hp : p < b) (hb : b ≤ d.size) (hs : d.size < 4294967296) :
  (Sk S.z S.c) ((rep d), (a : Int), (b : Int), (p : Int), ()) = some ((rep (partitionEqual ltX d a b p).2), (((partitionEqual ltX d a b p).1 : Nat) : Int), ()) := by
 have hm : 4294967296 < many := by simp only [many]; omega
 have ha' : a < d.size := by omega
 have hp' : p < d.size := by omega
 rw [AKP, Ks, partitionEqual]
 simp only [Ar ha', Ar hp', (DD ha' hp').1, (DD ha' hp').2]
 have hs' := hs
 rw [← size_swp d a p] at ha' hs' hb
 generalize swp d a p = d at *
 simp (disch := omega) only [AM, Ap, Ag]
 rw [ACf a _ (a + 1) (b - 1) d many rfl ha' (by omega) (by omega) (by omega) hs' (by omega)]
end Go.Pev.Pl.SG
end
section
namespace Go.Pev.Pl.SG
open Go.Sort
variable {α : Type} {S : SP α}
theorem NX (d : Array (EL S)) (b : Nat) : ∀ (k i : Nat), b - i = k → i ≤ b → i ≤ scanSorted ltX d b i ∧ scanSorted ltX d b i ≤ b := by
 intro k
 induction k using Nat.strongRecOn with
 | _ k ih =>
 intro i hk hi
 rw [scanSorted]
 split
 ·rename_i h
  have : i < b := by simp at h; exact h.1
  have := ih (b - (i + 1)) (by omega) (i + 1) rfl (by omega)
  omega
 ·omega
theorem YZ (d : Array (EL S)) (a b s : Nat) (hb : b ≤ d.size) (hs : d.size < 4294967296) : ∀ (k i n : Nat), b - i = k → 1 ≤ i → i ≤ b → k < n →
  AU (Gu S.z S.c) n ((rep d), (a : Int), (b : Int), (i : Int), (s : Int), ()) = some (.inl ((rep d), (a : Int), (b : Int), ((scanSorted ltX d b i : Nat) : Int), (s : Int), ())) := by
 intro k
 induction k using Nat.strongRecOn with
 | _ k ih =>
 intro i n hk h1 hi hn
 obtain ⟨n, rfl⟩ : ∃ k, n = k + 1 := ⟨n - 1, by omega⟩
 rw [scanSorted, AU, Gu]
 simp only [AL]
 by_cases h : i < b
 ·have i0 : i < d.size := by omega
  have i1 : i - 1 < d.size := by omega
  simp (disch := omega) only [h, decide_true, Ap, AM, Ar, BJ, Bs, Cb, Bool.true_and]
  cases h2 : ltX d[i]! d[i - 1]!
  ·simp only [Bool.not_false, if_true]
   exact ih (b - (i + 1)) (by omega) (i + 1) n rfl (by omega) (by omega) (by omega)
  ·simp only [Bool.not_true, Bool.false_eq_true, if_false]
 ·simp only [h, decide_false, Bool.false_and, Bool.false_eq_true, if_false]
theorem Yb (a b i s : Nat) : ∀ (j : Nat) (d : Array (EL S)) (n : Nat), j < d.size → d.size < 4294967296 → j < n →
  AU (E3 S.z S.c) n ((rep d), (a : Int), (b : Int), (i : Int), (s : Int), (j : Int), ()) = some (.inl ((rep (shiftDown ltX j d)), (a : Int), (b : Int), (i : Int), (s : Int), ())) := by
 intro j
 induction j with
 | zero =>
  intro d n hj hs hn
  obtain ⟨n, rfl⟩ : ∃ k, n = k + 1 := ⟨n - 1, by omega⟩
  rw [AU, E3, A2, decide_eq_false (by omega)]
  rfl
 | succ j ih =>
  intro d n hj hs hn
  obtain ⟨n, rfl⟩ : ∃ k, n = k + 1 := ⟨n - 1, by omega⟩
  have hj' : j < d.size := by omega
  rw [shiftDown, AU, E3, A2, decide_eq_true (by omega)]
  simp (disch := omega) only [Ap, Nat.add_sub_cancel, Ar, BJ, Bs, Cb]
  cases h2 : ltX d[j + 1]! d[j]!
  ·simp only [Bool.not_false, if_true]
  ·have e1 := DD hj hj'
   simp only [BJ hj, BJ hj'] at e1
   simp only [Bool.not_true, Bool.false_eq_true, if_false, e1]
   exact ih _ n (by rw [size_swp]; omega) (by rw [size_swp]; omega) (by omega)
theorem RI (a b i s : Nat) : ∀ (k j : Nat) (d : Array (EL S)) (n : Nat), b - j = k → 1 ≤ j → b ≤ d.size → d.size < 4294967296 → k < n →
  AU (E2 S.z S.c) n ((rep d), (a : Int), (b : Int), (i : Int), (s : Int), (j : Int), ()) = some (.inl ((rep (shiftUp ltX b j d)), (a : Int), (b : Int), (i : Int), (s : Int), ())) := by
 intro k
 induction k using Nat.strongRecOn with
 | _ k ih =>
 intro j d n hk h1 hb hs hn
 obtain ⟨n, rfl⟩ : ∃ k, n = k + 1 := ⟨n - 1, by omega⟩
 rw [shiftUp, AU, E2]
 simp only [AL]
 by_cases h : j < b
 ·have i0 : j < d.size := by omega
  have i1 : j - 1 < d.size := by omega
  simp (disch := omega) only [h, decide_true, if_true, Ap, AM, Ar, BJ, Bs, Cb]
  cases h2 : ltX d[j]! d[j - 1]!
  ·simp only [Bool.not_false, if_true]
  ·have e1 := DD i0 i1
   simp only [BJ i0, BJ i1] at e1
   simp only [Bool.not_true, Bool.false_eq_true, if_false, e1]
   exact ih (b - (j + 1)) (by omega) (j + 1) _ n rfl (by omega) (by rw [size_swp]; omega) (by rw [size_swp]; omega) (by omega)
 ·simp only [h, decide_false, if_false]
theorem UK : ∀ (j : Nat) (d : Array (EL S)), (shiftDown ltX j d).size = d.size := by
 intro j
 induction j with
 | zero => intro d; rfl
 | succ j ih =>
  intro d
  rw [shiftDown]
  split
  ·rfl
  ·rw [ih, size_swp]
theorem FZ (b : Nat) : ∀ (k j : Nat) (d : Array (EL S)), b - j = k → (shiftUp ltX b j d).size = d.size := by
 intro k
 induction k using Nat.strongRecOn with
 | _ k ih =>
 intro j d hk
 rw [shiftUp]
 split
 ·split
  ·rfl
  ·rw [ih (b - (j + 1)) (by omega) (j + 1) _ rfl, size_swp]
 ·rfl
theorem Ya (a b : Nat) (hab : a < b) : ∀ (k i s : Nat) (d : Array (EL S)) (n : Nat), s + k = 5 → a + 1 ≤ i → i ≤ b → b ≤ d.size → d.size < 4294967296 → k < n →
  AU (CA S.z S.c) n ((rep d), (a : Int), (b : Int), (i : Int), (s : Int), ()) = some (.inl ((rep (partialIns ltX a b k i d).1), (partialIns ltX a b k i d).2, ())) ∨
  ((partialIns ltX a b k i d).2 = false ∧ AU (CA S.z S.c) n ((rep d), (a : Int), (b : Int), (i : Int), (s : Int), ()) = some (.inr (.inl ((rep (partialIns ltX a b k i d).1), ())))) := by
 intro k
 induction k with
 | zero =>
  intro i s d n hk h1 hi hb hs hn
  obtain ⟨n, rfl⟩ : ∃ k, n = k + 1 := ⟨n - 1, by omega⟩
  rw [AU, CA, Aj, decide_eq_false (by omega)]
  exact .inr ⟨rfl, rfl⟩
 | succ k ih =>
  intro i s d n hk h1 hi hb hs hn
  have hm : 4294967296 < many := by simp only [many]; omega
  have es : IntKind.wrap .i64 ((s : Int) + 1) = ((s + 1 : Nat) : Int) := AM (by omega)
  obtain ⟨n, rfl⟩ : ∃ k, n = k + 1 := ⟨n - 1, by omega⟩
  rw [AU, CA, Aj, decide_eq_true (by omega), partialIns]
  simp only [Ag, YZ d a b s hb hs (b - i) i many rfl (by omega) hi (by omega)]
  have hsc := NX d b _ i rfl hi
  generalize scanSorted ltX d b i = i2 at *
  simp only [Sq]
  by_cases h2 : i2 = b
  ·simp only [h2, decide_true, if_true, true_or]
  ·simp (disch := omega) only [h2, decide_false, if_false, A5, Aj, A2]
   by_cases h3 : b - a < 50
   ·rw [if_pos h3, decide_eq_true (by omega)]
    exact .inl rfl
   ·have i0 : i2 < d.size := by omega
    have i1 : i2 - 1 < d.size := by omega
    rw [if_neg h3, decide_eq_false (by omega)]
    simp (disch := omega) only [Ap, AM, Ar i0, Ar i1, (DD i0 i1).1, (DD i0 i1).2]
    have hsz := size_swp d i2 (i2 - 1)
    generalize swp d i2 (i2 - 1) = d2 at *
    by_cases h4 : i2 - a ≥ 2
    ·rw [if_pos h4, decide_eq_true (show (2 : Int) ≤ ((i2 - a : Nat) : Int) by omega)]
     simp only [Yb a b i2 s (i2 - 1) d2 many (by omega) (by omega) (by omega)]
     have hsz2 := UK (i2 - 1) d2
     generalize shiftDown ltX (i2 - 1) d2 = d3 at *
     simp (disch := omega) only [A5, AM]
     by_cases h5 : b - i2 ≥ 2
     ·rw [if_pos h5, decide_eq_true (show (2 : Int) ≤ ((b - i2 : Nat) : Int) by omega)]
      simp only [RI a b i2 s _ (i2 + 1) d3 many rfl (by omega) (by omega) (by omega) (by omega)]
      simp only [es]
      exact ih i2 (s + 1) (shiftUp ltX b (i2 + 1) d3) n (by omega) (by omega) (by omega) (by rw [FZ b (b - (i2 + 1)) (i2 + 1) _ rfl]; omega) (by rw [FZ b (b - (i2 + 1)) (i2 + 1) _ rfl]; omega) (by omega)
     ·rw [if_neg h5, decide_eq_false (show ¬ (2 : Int) ≤ ((b - i2 : Nat) : Int) by omega)]
      simp only [es]
      exact ih i2 (s + 1) d3 n (by omega) (by omega) (by omega) (by omega) (by omega) (by omega)
    ·rw [if_neg h4, decide_eq_false (show ¬ (2 : Int) ≤ ((i2 - a : Nat) : Int) by omega)]
     by_cases h5 : b - i2 ≥ 2
     ·rw [if_pos h5, decide_eq_true (show (2 : Int) ≤ ((b - i2 : Nat) : Int) by omega)]
      simp only [RI a b i2 s _ (i2 + 1) d2 many rfl (by omega) (by omega) (by omega) (by omega)]
      simp only [es]
      exact ih i2 (s + 1) (shiftUp ltX b (i2 + 1) d2) n (by omega) (by omega) (by omega) (by rw [FZ b (b - (i2 + 1)) (i2 + 1) _ rfl]; omega) (by rw [FZ b (b - (i2 + 1)) (i2 + 1) _ rfl]; omega) (by omega)
     ·rw [if_neg h5, decide_eq_false (show ¬ (2 : Int) ≤ ((b - i2 : Nat) : Int) by omega)]
      simp only [es]
      exact ih i2 (s + 1) d2 n (by omega) (by omega) (by omega) (by omega) (by omega) (by omega)
theorem ACc (d : Array (EL S)) (a b : Nat) (hab : a < b) (hb : b ≤ d.size) (hs : d.size < 4294967296) :
  (Nk S.z S.c) ((rep d), (a : Int), (b : Int), ()) = some ((rep (partialInsertionSort ltX d a b).1), (partialInsertionSort ltX d a b).2, ()) := by
 have hm : 4294967296 < many := by simp only [many]; omega
 rw [AGj, IV, partialInsertionSort]
 simp (disch := omega) only [AM, Ag]
 have h := Ya a b hab 5 (a + 1) 0 d many rfl (Nat.le_refl _) (by omega) hb hs (by omega)
 rcases h with h | ⟨h0, h⟩
 ·have h' : AU (CA S.z S.c) many ((rep d), (a : Int), (b : Int), ((a + 1 : Nat) : Int), (0 : Int), ()) = _ := h
  rw [h']
 ·have h' : AU (CA S.z S.c) many ((rep d), (a : Int), (b : Int), ((a + 1 : Nat) : Int), (0 : Int), ()) = _ := h
  rw [h', h0]
theorem Jo (d : Array (EL S)) (a b : Nat) (s : Int) (ha : a < d.size) (hb : b < d.size) :
  ∃ s' p q, (Kv S.z S.c) ((rep d), (a : Int), (b : Int), s, ()) = some ((rep d), s', ((p : Nat) : Int), ((q : Nat) : Int), ()) ∧ (p = a ∧ q = b ∨ p = b ∧ q = a) := by
 rw [AKR, Ku]
 simp only [Ar ha, Ar hb, BJ ha, BJ hb, Bs, Cb]
 cases ltX d[b]! d[a]!
 ·exact ⟨_, a, b, rfl, .inl ⟨rfl, rfl⟩⟩
 ·exact ⟨_, b, a, rfl, .inr ⟨rfl, rfl⟩⟩
theorem Jq (d : Array (EL S)) (a b c : Nat) (s : Int) (ha : a < d.size) (hb : b < d.size) (hc : c < d.size) :
  ∃ s' p, (Kz S.z S.c) ((rep d), (a : Int), (b : Int), (c : Int), s, ()) = some ((rep d), s', ((p : Nat) : Int), ()) ∧ (p = a ∨ p = b ∨ p = c) := by
 rw [AKo, Ky]
 obtain ⟨s1, p1, q1, e1, h1⟩ := Jo d a b s ha hb
 simp only [e1]
 obtain ⟨s2, p2, q2, e2, h2⟩ := Jo d q1 c s1 (by omega) hc
 simp only [e2]
 obtain ⟨s3, p3, q3, e3, h3⟩ := Jo d p1 p2 s2 (by omega) (by omega)
 simp only [e3]
 exact ⟨_, q3, rfl, by omega⟩
theorem Jr (d : Array (EL S)) (a : Nat) (s : Int) (h1 : 1 ≤ a) (ha : a + 1 < d.size) (hs : d.size < 4294967296) :
  ∃ s' p, (K1 S.z S.c) ((rep d), (a : Int), s, ()) = some ((rep d), s', ((p : Nat) : Int), ()) ∧ a ≤ p + 1 ∧ p ≤ a + 1 := by
 rw [AKq, K0]
 simp (disch := omega) only [Ap, AM]
 obtain ⟨s1, p1, e1, h1⟩ := Jq d (a - 1) a (a + 1) s (by omega) (by omega) ha
 simp only [e1]
 exact ⟨_, p1, rfl, by omega⟩
theorem AKA (d : Array (EL S)) (a b : Nat) (hab : a + 8 ≤ b) (hb : b ≤ d.size) (hs : d.size < 4294967296) :
  ∃ p h, (ACS S.z S.c) ((rep d), (a : Int), (b : Int), ()) = some ((rep d), ((p : Nat) : Int), h, ()) ∧ a ≤ p ∧ p < b := by
 rw [APM, Nh]
 simp (disch := omega) only [A5, AM0, AN6, Ki, AN5, wrap_add, A2]
 rw [decide_eq_true (show (8 : Int) ≤ ((b - a : Nat) : Int) by omega)]
 simp only []
 by_cases h : 50 ≤ b - a
 ·rw [decide_eq_true (show (50 : Int) ≤ ((b - a : Nat) : Int) by omega)]
  simp only []
  obtain ⟨s1, p1, e1, h1⟩ := Jr d (a + (b - a) / 4 * 1) 0 (by omega) (by omega) hs
  simp only [e1]
  obtain ⟨s2, p2, e2, h2⟩ := Jr d (a + (b - a) / 4 * 2) s1 (by omega) (by omega) hs
  simp only [e2]
  obtain ⟨s3, p3, e3, h3⟩ := Jr d (a + (b - a) / 4 * 3) s2 (by omega) (by omega) hs
  simp only [e3]
  obtain ⟨s4, p4, e4, h4⟩ := Jq d p1 p2 p3 s3 (by omega) (by omega) (by omega)
  simp only [e4]
  cases ieq s4 0
  ·cases ieq s4 12
   ·exact ⟨p4, _, rfl, by omega, by omega⟩
   ·exact ⟨p4, _, rfl, by omega, by omega⟩
  ·exact ⟨p4, _, rfl, by omega, by omega⟩
 ·rw [decide_eq_false (show ¬ (50 : Int) ≤ ((b - a : Nat) : Int) by omega)]
  simp only []
  obtain ⟨s4, p4, e4, h4⟩ := Jq d (a + (b - a) / 4 * 1) (a + (b - a) / 4 * 2) (a + (b - a) / 4 * 3) 0 (by omega) (by omega) (by omega)
  simp only [e4]
  cases ieq s4 0
  ·cases ieq s4 12
   ·exact ⟨p4, _, rfl, by omega, by omega⟩
   ·exact ⟨p4, _, rfl, by omega, by omega⟩
  ·exact ⟨p4, _, rfl, by omega, by omega⟩
end Go.Pev.Pl.SG
end
section
namespace Go.Pev.Pl
open Go.Sort
set_option maxRecDepth 100000
theorem AP0 : (List.range 256).all (fun k => match FL[k]? with
  | some v => decide (0 ≤ v) && (decide (v ≤ 8) && decide (2 ^ v.toNat ≤ max 1 (2 * k)))
  | none => false) = true := by decide +kernel
theorem AP1 {k : Nat} (h : k < 256) : ∃ v : Nat, idx FL (k : Int) = some (v : Int) ∧ v ≤ 8 ∧ 2 ^ v ≤ max 1 (2 * k) := by
 have := List.all_eq_true.1 AP0 k (List.mem_range.2 h)
 rw [idx_eq, MS, if_neg (by omega), Int.toNat_natCast]
 cases e : FL[k]? with
 | none => rw [e] at this; cases this
 | some v =>
  rw [e] at this
  simp only [Bool.and_eq_true, decide_eq_true_eq] at this
  exact ⟨v.toNat, by rw [Int.toNat_of_nonneg this.1], by omega, this.2.2⟩
theorem Sg (n s : Nat) (h : s ≤ 64) : shr? .u64 (n : Int) (s : Int) = some ((n / 2 ^ s : Nat) : Int) := by
 rw [AJQ, YO, if_neg (by omega), Int.toNat_natCast, show min s (IntKind.bits .u64) = s from Nat.min_eq_left h, Int.fdiv_eq_ediv_of_nonneg _ (Int.pow_nonneg (by omega))]
 rfl
theorem u8_in {n : Int} (h : 0 ≤ n ∧ n ≤ 255) : IntKind.wrap .u8 n = n := IntWalk.u8_in n h
theorem u64_in {n : Int} (h : 0 ≤ n ∧ n ≤ 18446744073709551615) : IntKind.wrap .u64 n = n := IntWalk.u64_in n h
theorem AP2 (n : Nat) (hn : n < 4294967296) : ∃ v : Nat, AG5 ((n : Int), ()) = some ((v : Int), ()) ∧ v ≤ 32 ∧ 2 ^ v ≤ max 1 (2 * n) := by
 rw [AG4, Sp, A2, decide_eq_false (by omega)]
 simp only [A2]
 have key : ∀ (s m : Nat), s ≤ 24 → m < 256 → m * 2 ^ s ≤ n → (s = 0 ∨ 1 ≤ m) → ∃ v : Nat, idx FL (m : Int) = some (v : Int) ∧ v ≤ 8 ∧ 2 ^ (s + v) ≤ max 1 (2 * n) := by
  intro s m hs hm hle h1
  obtain ⟨v, e, h8, hp⟩ := AP1 hm
  refine ⟨v, e, h8, ?_⟩
  rcases h1 with rfl | h1
  ·rw [Nat.zero_add]; simp at hle; omega
  ·have h2 : 2 ^ v ≤ 2 * m := by omega
   have h3 : 2 ^ (s + v) ≤ 2 * (m * 2 ^ s) := by
    rw [Nat.pow_add, Nat.mul_comm (2 ^ s), ← Nat.mul_assoc]
    exact Nat.mul_le_mul_right _ h2
   omega
 by_cases h1 : 65536 ≤ n
 ·rw [decide_eq_true (show (65536 : Int) ≤ (n : Int) by omega)]
  have e16 : shr? .u64 (n : Int) 16 = some ((n / 65536 : Nat) : Int) := Sg n 16 (by omega)
  simp only [e16]
  by_cases h2 : 256 ≤ n / 65536
  ·rw [decide_eq_true (show (256 : Int) ≤ ((n / 65536 : Nat) : Int) by omega)]
   have e8 : shr? .u64 ((n / 65536 : Nat) : Int) 8 = some ((n / 65536 / 256 : Nat) : Int) := Sg _ 8 (by omega)
   obtain ⟨v, e, h8, hp⟩ := key 24 (n / 65536 / 256) (by omega) (by omega) (by omega) (by omega)
   simp only [e8]
   rw [u8_in (by omega)]
   simp only [e]
   refine ⟨24 + v, ?_, by omega, hp⟩
   rw [Ah (n := 0 + 16) (by omega), Ah (n := (0 : Int) + 16 + 8) (by omega), Ah (n := (v : Int)) (by omega), Ah (by omega)]
   congr 2
  ·rw [decide_eq_false (show ¬ (256 : Int) ≤ ((n / 65536 : Nat) : Int) by omega)]
   obtain ⟨v, e, h8, hp⟩ := key 16 (n / 65536) (by omega) (by omega) (by omega) (by omega)
   simp only []
   rw [u8_in (by omega)]
   simp only [e]
   refine ⟨16 + v, ?_, by omega, hp⟩
   rw [Ah (n := 0 + 16) (by omega), Ah (n := (v : Int)) (by omega), Ah (by omega)]
   congr 2
 ·rw [decide_eq_false (show ¬ (65536 : Int) ≤ (n : Int) by omega)]
  by_cases h2 : 256 ≤ n
  ·have e8 : shr? .u64 (n : Int) 8 = some ((n / 256 : Nat) : Int) := Sg n 8 (by omega)
   obtain ⟨v, e, h8, hp⟩ := key 8 (n / 256) (by omega) (by omega) (by omega) (by omega)
   simp only []
   rw [decide_eq_true (show (256 : Int) ≤ (n : Int) by omega)]
   simp only [e8]
   rw [u8_in (by omega)]
   simp only [e]
   refine ⟨8 + v, ?_, by omega, hp⟩
   rw [Ah (n := 0 + 8) (by omega), Ah (n := (v : Int)) (by omega), Ah (by omega)]
   congr 2
  ·obtain ⟨v, e, h8, hp⟩ := key 0 n (by omega) (by omega) (by omega) (by omega)
   simp only []
   rw [decide_eq_false (show ¬ (256 : Int) ≤ (n : Int) by omega)]
   simp only []
   rw [u8_in (by omega)]
   simp only [e]
   refine ⟨0 + v, ?_, by omega, hp⟩
   rw [Ah (n := (v : Int)) (by omega), Ah (by omega)]
   congr 2
theorem Ra (n : Nat) (hn : n < 4294967296) : ∃ v : Nat, bitsLen ((n : Int), ()) = some ((v : Int), ()) ∧ v ≤ 32 ∧ 2 ^ v ≤ max 1 (2 * n) := by
 rw [Xe, K7]
 obtain ⟨v, e, h⟩ := AP2 n hn
 simp only [e]
 exact ⟨v, rfl, h⟩
theorem AGt (n : Nat) (h1 : 1 ≤ n) (hn : n < 4294967296) : ∃ m : Nat, Nq ((n : Int), ()) = some ((m : Int), ()) ∧ 1 ≤ m ∧ m ≤ 2 * n := by
 rw [WK, Kx, u64_in (by omega)]
 obtain ⟨v, e, h32, hp⟩ := Ra n hn
 simp only [e]
 have e2 : shl? .u64 (1 : Int) (v : Int) = some ((2 ^ v : Nat) : Int) := by
  rw [AB2, UL, if_neg (by omega), Int.toNat_natCast, show min v (IntKind.bits .u64) = v from Nat.min_eq_left (by show v ≤ 64; omega), Int.one_mul]
  have : 2 ^ v ≤ 2 ^ 32 := Nat.pow_le_pow_right (by omega) h32
  have h1 : 1 ≤ 2 ^ v := Nat.one_le_two_pow
  have e : ((2 : Int) ^ v) = ((2 ^ v : Nat) : Int) := by simp
  rw [e, u64_in (by constructor <;> omega)]
 simp only [e2]
 exact ⟨2 ^ v, rfl, Nat.one_le_two_pow, by omega⟩
theorem AEa (r : Int) : ∃ r' y, xorNext (r, ()) = some (r', y, ()) := by
 rw [S6, Kh, AB2, UL, if_neg (by omega)]
 simp only []
 rw [AJQ, YO, if_neg (by omega)]
 simp only []
 rw [AB2, UL, if_neg (by omega)]
 exact ⟨_, _, rfl⟩
theorem ASz (y : Int) (m : Nat) (h1 : 1 ≤ m) (hm : m < 18446744073709551616) : ∃ o : Nat, IntKind.wrap .u64 ((BitVec.ofInt (IntKind.bits .u64) y &&& BitVec.ofInt (IntKind.bits .u64) (IntKind.wrap .u64 ((m : Int) - 1))).toNat) = (o : Int) ∧ o < m := by
 rw [u64_in (n := (m : Int) - 1) (by omega), show (m : Int) - 1 = ((m - 1 : Nat) : Int) by omega, BitVec.toNat_and]
 have h2 : (BitVec.ofInt (IntKind.bits .u64) ((m - 1 : Nat) : Int)).toNat = m - 1 := by
  rw [BitVec.ofInt_natCast, BitVec.toNat_ofNat]
  exact Nat.mod_eq_of_lt (by show m - 1 < 18446744073709551616; omega)
 rw [h2]
 have h3 : (BitVec.ofInt (IntKind.bits .u64) y).toNat &&& (m - 1) ≤ m - 1 := Nat.and_le_right
 exact ⟨_, u64_in (by omega), by omega⟩
end Go.Pev.Pl
end
section
namespace Go.Pev.Pl.SG
open Go.Sort
variable {α : Type} {S : SP α}
theorem AH6 (a b : Nat) (m : Nat) (h8 : a + 8 ≤ b) (hm1 : 1 ≤ m) (hm : m ≤ 2 * (b - a)) : ∀ (k t : Nat) (d : Array (EL S)) (r : Int) (n : Nat), t + k = 3 → b ≤ d.size → d.size < 4294967296 → k < n →
  ∃ d' : Array (EL S), AU (Fx S.z S.c) n ((rep d), (a : Int), ((b - a : Nat) : Int), r, (m : Int), ((a + (b - a) / 4 * 2 - 1 + t : Nat) : Int), ()) = some (.inl ((rep d'), ())) ∧ PermIn a b d d' := by
 intro k
 induction k with
 | zero =>
  intro t d r n hk hb hs hn
  obtain ⟨n, rfl⟩ : ∃ k, n = k + 1 := ⟨n - 1, by omega⟩
  rw [AU, Fx]
  simp (disch := omega) only [AM0, Ki, wrap_add, AM, Cc]
  rw [decide_eq_false (by omega)]
  exact ⟨d, rfl, permIn_refl d a b⟩
 | succ k ih =>
  intro t d r n hk hb hs hn
  obtain ⟨n, rfl⟩ : ∃ k, n = k + 1 := ⟨n - 1, by omega⟩
  rw [AU, Fx]
  simp (disch := omega) only [AM0, Ki, wrap_add, AM, Cc]
  rw [decide_eq_true (show a + (b - a) / 4 * 2 - 1 + t ≤ a + (b - a) / 4 * 2 + 1 by omega)]
  obtain ⟨r', y, e⟩ := AEa r
  obtain ⟨o, e2, ho⟩ := ASz y m hm1 (by omega)
  simp only [e, e2]
  rw [Ah (n := (o : Int)) (by omega)]
  simp only [Cc]
  have i0 : a + (b - a) / 4 * 2 - 1 + t < d.size := by omega
  have fin : ∀ q : Nat, a ≤ q → q < b → ∃ d' : Array (EL S), AU (Fx S.z S.c) n ((rep (swp d (a + (b - a) / 4 * 2 - 1 + t) q)), (a : Int), ((b - a : Nat) : Int), r', (m : Int), ((a + (b - a) / 4 * 2 - 1 + t + 1 : Nat) : Int), ()) = some (.inl ((rep d'), ())) ∧ PermIn a b d d' := by
   intro q hq1 hq2
   obtain ⟨d', e', hp⟩ := ih (t + 1) (swp d (a + (b - a) / 4 * 2 - 1 + t) q) r' n (by omega) (by rw [size_swp]; omega) (by rw [size_swp]; omega) (by omega)
   exact ⟨d', e', permIn_trans _ _ _ a b (swp_permIn d a b _ q (by omega) (by omega) hq1 hq2 hb) hp⟩
  by_cases h : b - a ≤ o
  ·have i1 : a + (o - (b - a)) < d.size := by omega
   simp (disch := omega) only [h, decide_true, A5, wrap_add, AM, Ar i0, Ar i1, (DD i0 i1).1, (DD i0 i1).2]
   exact fin _ (by omega) (by omega)
  ·have i1 : a + o < d.size := by omega
   simp (disch := omega) only [h, decide_false, A5, wrap_add, AM, Ar i0, Ar i1, (DD i0 i1).1, (DD i0 i1).2]
   exact fin _ (by omega) (by omega)
theorem AMD (d : Array (EL S)) (a b : Nat) (hab : a ≤ b) (hb : b ≤ d.size) (hs : d.size < 4294967296) :
  ∃ d' : Array (EL S), (AD9 S.z S.c) ((rep d), (a : Int), (b : Int), ()) = some ((rep d'), ()) ∧ PermIn a b d d' := by
 have hm : 4294967296 < many := by simp only [many]; omega
 rw [AQw, Of]
 simp (disch := omega) only [A5, A2]
 by_cases h : 8 ≤ b - a
 ·rw [decide_eq_true (show (8 : Int) ≤ ((b - a : Nat) : Int) by omega)]
  obtain ⟨m, e, h1, h2⟩ := AGt (b - a) (by omega) (by omega)
  simp only [e]
  rw [u64_in (n := ((b - a : Nat) : Int)) (by omega)]
  simp (disch := omega) only [AM0, Ki, wrap_add, Ap, Ag]
  obtain ⟨d', e2, hp⟩ := AH6 a b m (by omega) h1 h2 3 0 d ((b - a : Nat) : Int) many rfl hb hs (by omega)
  rw [Nat.add_zero] at e2
  simp only [e2]
  exact ⟨d', rfl, hp⟩
 ·rw [decide_eq_false (show ¬ (8 : Int) ≤ ((b - a : Nat) : Int) by omega)]
  exact ⟨d, rfl, permIn_refl d a b⟩
end Go.Pev.Pl.SG
end
section
namespace Go.Pev.Pl.SG
open Go.Sort
variable {α : Type} {S : SP α}
abbrev AXe (α : Type) := List α × Int × Int × Int × Bool × Bool × Unit
abbrev ANy (α : Type) := AXe α ⊕ (List α × Unit) ⊕ Unit
def Xh (d : Array (EL S)) (a b : Nat) : ANy α → Prop
 | .inl (xs, x, y, l, _, _, _) => ∃ (e : Array (EL S)) (i j : Nat), xs = (rep e) ∧ x = (i : Int) ∧ y = (j : Int) ∧ 0 ≤ l ∧ l ≤ 100 ∧ i ≤ j ∧ j ≤ e.size ∧ e.size = d.size ∧ j - i < b - a ∧ Below ltX i j e ∧
   ∀ R, PermIn i j e R → SortedIn ltX i j R → PermIn a b d R ∧ SortedIn ltX a b R
 | .inr (.inl (xs, _)) => ∃ R : Array (EL S), xs = (rep R) ∧ PermIn a b d R ∧ SortedIn ltX a b R
 | .inr (.inr _) => False
def D7 (self : (List α × Int × Int × Int × Unit) → Option ((List α × Unit))) (m : Nat) : Prop :=
 ∀ (d : Array (EL S)) (a b : Nat) (l : Int), a ≤ b → b ≤ d.size → d.size < 4294967296 → 0 ≤ l → l ≤ 100 → Below ltX a b d → 2 * (b - a) < m →
  ∃ R : Array (EL S), self ((rep d), (a : Int), (b : Int), l, ()) = some ((rep R), ()) ∧ PermIn a b d R ∧ SortedIn ltX a b R
section
variable {self : (List α × Int × Int × Int × Unit) → Option ((List α × Unit))} {d : Array (EL S)} {a b : Nat} {l : Int}
theorem AGE (hself : D7 (S := S) self (b - a)) (hb : b ≤ d.size) (hs : d.size < 4294967296) (hl : 0 ≤ l ∧ l ≤ 100)
  {d3 : Array (EL S)} {p : Nat} (P3 : PermIn a b d d3) (B3 : Below ltX a b d3) (hp1 : a ≤ p) (hp2 : p < b) :
  ∃ o, (match (Zw S.z S.c) ((rep d3), (a : Int), (b : Int), (p : Int), ()) with
  | none => none
  | some (y20, y21, y22, _) => match quo? .i64 (IntKind.wrap .i64 ((b : Int) - (a : Int))) (8 : Int) with
   | none => none
   | some x23 => match (ilt (IntKind.wrap .i64 (y21 - (a : Int))) (IntKind.wrap .i64 ((b : Int) - y21))) with
    | true => match self (y20, (a : Int), y21, l, ()) with
     | none => none
     | some (y24, _) => some ((.inl (y24, (IntKind.wrap .i64 (y21 + (1 : Int))), (b : Int), l, (ile x23 (IntKind.wrap .i64 (y21 - (a : Int)))), y22, ())) : ANy α)
    | false => match self (y20, (IntKind.wrap .i64 (y21 + (1 : Int))), (b : Int), l, ()) with
     | none => none
     | some (y25, _) => some (.inl (y25, (a : Int), y21, l, (ile x23 (IntKind.wrap .i64 ((b : Int) - y21))), y22, ()))) = some o ∧ Xh d a b o := by
 have b3 : b ≤ d3.size := by rw [P3.1]; exact hb
 have s3 : d3.size < 4294967296 := by rw [P3.1]; exact hs
 rw [APU d3 a b p hp1 hp2 b3 s3]
 rcases hx : partition ltX d3 a b p with ⟨mid, ap, d4⟩
 obtain ⟨g1, g2, hs4, hBa, hBr, hleft, hright⟩ := round_part ARl (partition_holds _) hp1 hp2 b3 B3 hx
 simp (disch := omega) only [A5, AM, AXX, AL]
 have b4 : b ≤ d4.size := by omega
 by_cases h : mid - a < b - mid
 ·obtain ⟨L, e, l1, l2⟩ := hself d4 a mid l g1 (by omega) (by omega) hl.1 hl.2 hBa (by omega)
  simp only [h, decide_true, e]
  obtain ⟨hBL, hfin⟩ := hleft _ l1 l2
  refine ⟨_, rfl, L, mid + 1, b, rfl, rfl, rfl, hl.1, hl.2, by omega, by rw [l1.1]; exact b4, by rw [l1.1, hs4, P3.1], by omega, hBL, fun R r1 r2 => ?_⟩
  obtain ⟨q1, q2⟩ := hfin R r1 r2
  exact ⟨permIn_trans _ _ _ a b P3 q1, q2⟩
 ·obtain ⟨L, e, l1, l2⟩ := hself d4 (mid + 1) b l (by omega) (by omega) (by omega) hl.1 hl.2 hBr (by omega)
  simp only [h, decide_false, e]
  obtain ⟨hBL, hfin⟩ := hright _ l1 l2
  refine ⟨_, rfl, L, a, mid, rfl, rfl, rfl, hl.1, hl.2, by omega, by rw [l1.1]; omega, by rw [l1.1, hs4, P3.1], by omega, hBL, fun R r1 r2 => ?_⟩
  obtain ⟨q1, q2⟩ := hfin R r1 r2
  exact ⟨permIn_trans _ _ _ a b P3 q1, q2⟩
theorem Ni (hself : D7 (S := S) self (b - a)) (hb : b ≤ d.size) (hs : d.size < 4294967296) (hl : 0 ≤ l ∧ l ≤ 100)
  {d3 : Array (EL S)} {p : Nat} (wb wp : Bool) (P3 : PermIn a b d d3) (B3 : Below ltX a b d3) (hp1 : a ≤ p) (hp2 : p < b) :
  ∃ o, (Pk S.z S.c) self (rep d3) (a : Int) (b : Int) (p : Int) l wb wp = some o ∧ Xh d a b o := by
 have b3 : b ≤ d3.size := by rw [P3.1]; exact hb
 have s3 : d3.size < 4294967296 := by rw [P3.1]; exact hs
 rw [Pk, Aj]
 by_cases h0 : 0 < a
 ·rw [decide_eq_true (by omega)]
  have i0 : a - 1 < d3.size := by omega
  have i1 : p < d3.size := by omega
  simp (disch := omega) only [Ap, Ar, BJ, Bs, Cb]
  cases hc : ltX d3[a - 1]! d3[p]!
  ·simp only [Bool.not_false]
   rw [AGp d3 a b p hp1 hp2 b3 s3]
   rcases hx : partitionEqual ltX d3 a b p with ⟨mid, d4⟩
   obtain ⟨hm1, hm2, hs4, hB4, hfin⟩ := round_eq ARl (partitionEqual_holds _) h0 hp1 hp2 b3 B3 hc hx
   refine ⟨_, rfl, d4, mid, b, rfl, rfl, rfl, hl.1, hl.2, by omega, by omega, by rw [hs4, P3.1], by omega, hB4, fun R r1 r2 => ?_⟩
   obtain ⟨q1, q2⟩ := hfin R r1 r2
   exact ⟨permIn_trans _ _ _ a b P3 q1, q2⟩
  ·simp only [Bool.not_true]
   exact AGE hself hb hs hl P3 B3 hp1 hp2
 ·rw [decide_eq_false (by omega)]
  exact AGE hself hb hs hl P3 B3 hp1 hp2
theorem AM3 (hself : D7 (S := S) self (b - a)) (hab : a < b) (hb : b ≤ d.size) (hs : d.size < 4294967296) (hl : 0 ≤ l ∧ l ≤ 100)
  {d3 : Array (EL S)} {p : Nat} (h : Int) (wb wp : Bool) (P3 : PermIn a b d d3) (B3 : Below ltX a b d3) (hp1 : a ≤ p) (hp2 : p < b) :
  ∃ o, (ACW S.z S.c) self (rep d3) (a : Int) (b : Int) (p : Int) h l wb wp = some o ∧ Xh d a b o := by
 have b3 : b ≤ d3.size := by rw [P3.1]; exact hb
 have s3 : d3.size < 4294967296 := by rw [P3.1]; exact hs
 unfold ACW
 cases wb
 ·exact Ni hself hb hs hl _ _ P3 B3 hp1 hp2
 ·cases wp
  ·exact Ni hself hb hs hl _ _ P3 B3 hp1 hp2
  ·simp only []
   cases ieq h 1
   ·exact Ni hself hb hs hl _ _ P3 B3 hp1 hp2
   ·simp only []
    rw [ACc d3 a b hab b3 s3]
    obtain ⟨q1, q2⟩ := partialInsertionSort_holds (lt := ltX) ARl d3 a b hab b3 B3
    rcases hx : partialInsertionSort ltX d3 a b with ⟨d4, fin⟩
    rw [hx] at q1 q2
    have P4 : PermIn a b d d4 := permIn_trans _ _ _ a b P3 q1
    cases fin
    ·exact Ni hself hb hs hl _ _ P4 (B3.perm b3 q1) hp1 hp2
    ·exact ⟨_, rfl, d4, rfl, P4, q2 rfl⟩
theorem AM2 (hself : D7 (S := S) self (b - a)) (hab : a + 8 ≤ b) (hb : b ≤ d.size) (hs : d.size < 4294967296) (hl : 0 ≤ l ∧ l ≤ 100)
  {d3 : Array (EL S)} (wb wp : Bool) (P3 : PermIn a b d d3) (B3 : Below ltX a b d3) :
  ∃ o, (ACV S.z S.c) self (rep d3) (a : Int) (b : Int) l wb wp = some o ∧ Xh d a b o := by
 have b3 : b ≤ d3.size := by rw [P3.1]; exact hb
 have s3 : d3.size < 4294967296 := by rw [P3.1]; exact hs
 rw [ACV]
 obtain ⟨p, h, e, hp1, hp2⟩ := AKA d3 a b hab b3 s3
 simp only [e]
 cases ieq h 2
 ·exact AM3 hself (by omega) hb hs hl h _ _ P3 B3 hp1 hp2
 ·simp only [ASY d3 a b (by omega) b3 s3]
  have q1 := reverseRange_holds (α := (EL S)) d3 a b (by omega) b3
  simp (disch := omega) only [Ap, A5]
  exact AM3 hself (by omega) hb hs hl 1 _ _ (permIn_trans _ _ _ a b P3 q1) (B3.perm b3 q1) (by omega) (by omega)
theorem APQ (hself : D7 (S := S) self (b - a)) (hab : a ≤ b) (hb : b ≤ d.size) (hs : d.size < 4294967296) (hl : 0 ≤ l ∧ l ≤ 100) (wb wp : Bool) (B : Below ltX a b d) :
  ∃ o, (Nj S.z S.c) self ((rep d), (a : Int), (b : Int), l, wb, wp, ()) = some o ∧ Xh d a b o := by
 rw [Nj]
 simp (disch := omega) only [A5, A2, HS]
 by_cases h12 : b - a ≤ 12
 ·rw [decide_eq_true (show ((b - a : Nat) : Int) ≤ 12 by omega)]
  simp only [ATV d a b hab hb hs]
  obtain ⟨q1, q2⟩ := insertionSort_holds (lt := ltX) ARl d a b hab hb
  exact ⟨_, rfl, _, rfl, q1, q2⟩
 ·rw [decide_eq_false (show ¬ ((b - a : Nat) : Int) ≤ 12 by omega)]
  simp only []
  by_cases h0 : l = 0
  ·subst h0
   simp only [BEq.rfl, AQF d a b (by omega) hb hs]
   obtain ⟨q1, q2⟩ := heapSort_holds (lt := ltX) ARl d a b hab hb
   exact ⟨_, rfl, _, rfl, q1, q2⟩
  ·rw [show (l == 0) = false by simpa using h0]
   simp only []
   cases wb
   ·obtain ⟨d', e, q1⟩ := AMD d a b hab hb hs
    simp only [Bool.not_false, e]
    rw [Ah (by omega)]
    exact AM2 hself (by omega) hb hs (by omega) _ _ q1 (B.perm hb q1)
   ·simp only [Bool.not_true]
    exact AM2 hself (by omega) hb hs hl _ _ (permIn_refl d a b) B
end
theorem AGF {self : (List α × Int × Int × Int × Unit) → Option ((List α × Unit))} {m : Nat} (hself : D7 (S := S) self m) : ∀ (k : Nat) (d : Array (EL S)) (a b : Nat) (l : Int) (wb wp : Bool) (n : Nat), b - a = k → k ≤ m → a ≤ b → b ≤ d.size → d.size < 4294967296 → 0 ≤ l → l ≤ 100 → Below ltX a b d → k < n →
  ∃ R : Array (EL S), AU ((Nj S.z S.c) self) n ((rep d), (a : Int), (b : Int), l, wb, wp, ()) = some (.inl ((rep R), ())) ∧ PermIn a b d R ∧ SortedIn ltX a b R := by
 intro k
 induction k using Nat.strongRecOn with
 | _ k ih =>
 intro d a b l wb wp n hk hm hab hb hs hl1 hl2 B hn
 obtain ⟨n, rfl⟩ : ∃ k, n = k + 1 := ⟨n - 1, by omega⟩
 have hself' : D7 (S := S) self (b - a) := fun d a' b' l h1 h2 h3 h4 h5 h6 h7 => hself d a' b' l h1 h2 h3 h4 h5 h6 (by omega)
 obtain ⟨o, e, ho⟩ := APQ hself' hab hb hs ⟨hl1, hl2⟩ wb wp B
 rw [AU, e]
 match o, ho with
 | .inl (xs, x, y, l', wb', wp', _), ho =>
  obtain ⟨e', i, j, rfl, rfl, rfl, g1, g2, g3, g4, g5, g6, g7, hfin⟩ := ho
  obtain ⟨R, e2, r1, r2⟩ := ih (j - i) (by omega) e' i j l' wb' wp' n rfl (by omega) g3 g4 (by omega) g1 g2 g7 (by omega)
  exact ⟨R, e2, hfin R r1 r2⟩
 | .inr (.inl (xs, _)), ho =>
  obtain ⟨R, rfl, r1, r2⟩ := ho
  exact ⟨R, rfl, r1, r2⟩
theorem APR : ∀ k : Nat, D7 (S := S) ((Jn S.z S.c) (k + 1)) (2 ^ k) := by
 intro k
 have hmany : 4294967296 < many := by simp only [many]; omega
 induction k with
 | zero =>
  intro d a b l h1 h2 h3 h4 h5 h6 h7
  have : D7 (S := S) ((Jn S.z S.c) 0) 0 := fun _ _ _ _ _ _ _ _ _ _ h => by omega
  obtain ⟨R, e, r1, r2⟩ := AGF this (b - a) d a b l true true many rfl (by omega) h1 h2 h3 h4 h5 h6 (by omega)
  refine ⟨R, ?_, r1, r2⟩
  rw [Jn, ACX]
  simp only [Ag, e]
 | succ k ih =>
  intro d a b l h1 h2 h3 h4 h5 h6 h7
  have hp : 2 ^ (k + 1) = 2 * 2 ^ k := by rw [Nat.pow_succ]; omega
  obtain ⟨R, e, r1, r2⟩ := AGF ih (b - a) d a b l true true many rfl (by omega) h1 h2 h3 h4 h5 h6 (by omega)
  refine ⟨R, ?_, r1, r2⟩
  rw [Jn, ACX]
  simp only [Ag, e]
theorem Tk {α : Type} (S : SP α) (xs : List α) (h : xs.length < 4294967296) (hok : ∀ x ∈ xs, S.ok x) : ∃ ys, (AR1 S.z S.c) (xs, ()) = some (ys, ()) ∧ ys.Perm xs ∧ ys.Pairwise fun x y => S.lt y x = false := by
 obtain ⟨d, rfl⟩ : ∃ d : Array (EL S), xs = rep d := by
  refine ⟨(xs.attach.map fun x => ⟨x.val, hok x.val x.property⟩).toArray, ?_⟩
  simp only [rep, List.map_map]
  exact (List.attach_map_subtype_val xs).symm
 have hl : (rep d).length = d.size := by simp [rep]
 rw [hl] at h
 rw [AR0, Sd]
 rw [ANq, u64_in (by omega)]
 obtain ⟨v, e, hv, _⟩ := Ra d.size h
 simp only [e]
 obtain ⟨R, e2, r1, r2⟩ := APR 99 d 0 d.size (v : Int) (by omega) (by omega) h (by omega) (by omega) (.inl rfl) (by
  have : 2 ^ 99 = 633825300114114700748351602688 := by decide
  omega)
 have e3 : (AVa S.z S.c) (rep d, (0 : Int), (d.size : Int), (v : Int), ()) = some (rep R, ()) := by rw [AVZ]; exact e2
 refine ⟨rep R, by simp only [e3], ?_, ?_⟩
 ·obtain ⟨hsz, _, hp⟩ := r1
  have e1 : R.extract 0 d.size = R := by rw [← hsz]; exact Array.extract_size
  rw [e1, Array.extract_size] at hp
  exact hp.map _
 ·rw [rep, List.pairwise_map, List.pairwise_iff_getElem]
  intro i j hi hj hij
  have hi' : i < R.size := by simpa using hi
  have hj' : j < R.size := by simpa using hj
  have := r2 i j (Nat.zero_le _) hij (by rw [← r1.1]; omega)
  rw [getElem!_pos R j hj', getElem!_pos R i hi'] at this
  simpa [ltX] using this
end Go.Pev.Pl.SG
end
section
namespace Go.Pev.Pl.SL
open Go.Sort
def ok (l : List Int) : Prop := l ≠ []
def okz : List Int := [0]
theorem WJ : ok okz := by simp [ok, okz]
def lt (x y : List Int) : Bool := ltInt (x.headD 0) (y.headD 0)
theorem swo : SWO lt := ⟨fun x => swo_ltInt.irrefl _, fun x y z => swo_ltInt.trans _ _ _, fun x y z => swo_ltInt.ntrans _ _ _⟩
theorem ADr {x y : List Int} (hx : ok x) (hy : ok y) : ∃ c, A4 (x, y, ()) = some (c, ()) ∧ ilt c (0 : Int) = lt x y := by
 cases x with
 | nil => exact absurd rfl hx
 | cons a x =>
  cases y with
  | nil => exact absurd rfl hy
  | cons b y =>
   rw [AEd, SW]
   have i1 : idx (a :: x) (0 : Int) = some a := by rw [idx_eq]; rfl
   have i2 : idx (b :: y) (0 : Int) = some b := by rw [idx_eq]; rfl
   simp only [i1, i2, KJ, Ga, ACn, WL]
   simp only [HS, Aj, lt, List.headD_cons, ltInt]
   by_cases h : a < b
   ·simp [h]
   ·by_cases h2 : b < a
    ·simp [h, h2]
    ·simp [h, h2]
noncomputable def S : SG.SP (List Int) := ⟨([] : List (Int)), A4, ok, okz, WJ, lt, swo, fun h1 h2 => ADr h1 h2⟩
theorem Tk (xs : List (List Int)) (h : xs.length < 4294967296) (hok : ∀ x ∈ xs, ok x) : ∃ ys, AFQ (xs, ()) = some (ys, ()) ∧ ys.Perm xs ∧ ys.Pairwise fun x y => lt y x = false := SG.Tk S xs h hok
end Go.Pev.Pl.SL
end
end
section
section
namespace Go.Pev.Pl
open Tok
def CL {α : Type} (P : Nat → Bool) : Nat → List α → List α
 | _, [] => []
 | i, x :: xs => if P i then CL P (i + 1) xs else x :: CL P (i + 1) xs
theorem AHl {α : Type} (P : Nat → Bool) : ∀ (xs : List α) (s : Nat), (∀ k, s ≤ k → P k = false) → CL P s xs = xs := by
 intro xs
 induction xs with
 | nil => intro s _; rfl
 | cons x xs ih =>
  intro s h
  rw [CL, h s (Nat.le_refl _), ih (s + 1) fun k hk => h k (by omega)]
  rfl
theorem ALm {α : Type} (P : Nat → Bool) (i : Nat) : ∀ (xs : List α) (s : Nat), s ≤ i → (∀ k, s ≤ k → P k = decide (k = i)) → CL P s xs = xs.eraseIdx (i - s) := by
 intro xs
 induction xs with
 | nil => intro s _ _; rfl
 | cons x xs ih =>
  intro s hs h
  rw [CL, h s (Nat.le_refl _)]
  by_cases e : s = i
  ·subst e
   rw [AHl P xs (s + 1) fun k hk => by rw [h k (by omega)]; simp; omega]
   simp
  ·rw [ih (s + 1) (by omega) fun k hk => h k (by omega)]
   rw [decide_eq_false e, if_neg (by simp), show i - s = (i - (s + 1)) + 1 by omega, List.eraseIdx_cons_succ]
theorem XH {α : Type} (P : Nat → Bool) (i j : Nat) (hij : i < j) : ∀ (xs : List α) (s : Nat), s ≤ i → (∀ k, s ≤ k → P k = decide (k = i ∨ k = j)) → CL P s xs = (xs.eraseIdx (j - s)).eraseIdx (i - s) := by
 intro xs
 induction xs with
 | nil => intro s _ _; rfl
 | cons x xs ih =>
  intro s hs h
  rw [CL, h s (Nat.le_refl _)]
  by_cases e : s = i
  ·subst e
   rw [ALm P j xs (s + 1) (by omega) fun k hk => by rw [h k (by omega)]; exact decide_eq_decide.2 ⟨fun q => by omega, fun q => .inr q⟩]
   rw [decide_eq_true (.inl rfl), if_pos rfl, show j - s = (j - (s + 1)) + 1 by omega, List.eraseIdx_cons_succ, Nat.sub_self, List.eraseIdx_zero]
   rfl
  ·rw [ih (s + 1) (by omega) fun k hk => h k (by omega)]
   rw [decide_eq_false (by omega), if_neg (by simp), show j - s = (j - (s + 1)) + 1 by omega, List.eraseIdx_cons_succ, show i - s = (i - (s + 1)) + 1 by omega, List.eraseIdx_cons_succ]
theorem AHm {α : Type} (P : Nat → Bool) : ∀ (xs : List α) (acc : List α) (k : Nat), (xs.foldl (fun (a : List α × Nat) x => (if P a.2 then a.1 else a.1 ++ [x], a.2 + 1)) (acc, k)).1 = acc ++ CL P k xs := by
 intro xs
 induction xs with
 | nil => intro acc k; simp [CL]
 | cons x xs ih =>
  intro acc k
  rw [List.foldl_cons, ih, CL]
  cases P k <;> simp
theorem ALn {α : Type} (P : Nat → Bool) : ∀ (xs : List α) (k : Nat), (CL P k xs).length ≤ xs.length ∧ ∀ x ∈ CL P k xs, x ∈ xs := by
 intro xs
 induction xs with
 | nil => intro k; simp [CL]
 | cons x xs ih =>
  intro k
  obtain ⟨h1, h2⟩ := ih (k + 1)
  rw [CL]
  split
  ·exact ⟨by simp only [List.length_cons]; omega, fun y hy => List.mem_cons_of_mem _ (h2 y hy)⟩
  ·refine ⟨by simp only [List.length_cons]; omega, fun y hy => ?_⟩
   rcases List.mem_cons.1 hy with rfl | hy
   ·simp
   ·exact List.mem_cons_of_mem _ (h2 y hy)
theorem AOA (n : Int) (rings : List (List Int)) (away : List Int) (come : List (List Int)) (hlen : rings.length < 1073741824) (ha : away.length < 1073741824) (hc : come.length < 1073741824)
  (hne : ∀ l ∈ rings, l ≠ []) (hce : ∀ r ∈ come, plain r ≠ []) :
  ∃ ys, AEn ((n, (rings, ())), away, come, ()) = some (n, ys, ()) ∧ ys.Perm (CL (fun k => decide ((k : Int) ∈ away)) 0 rings ++ come.map plain) ∧ ys.Pairwise (fun a b => ¬ hd b < hd a) := by
 rw [AEm, SX]
 have e := CQ (step := F8) (fun i (a : List (List Int) × Nat) => (away, come, n, rings, (0 : Int), a.1, rings, AQ rings, (i : Int), ())) rings
  (fun x a => .inl (if decide ((a.2 : Int) ∈ away) then a.1 else a.1 ++ [x], a.2 + 1)) (fun a => .inl (come, n, rings, (0 : Int), a.1, ())) (fun i a => a.2 = i ∧ a.1.length ≤ i) (by omega)
  (fun i x a hi hx ⟨h1, h2⟩ => by
   refine ⟨fun m' h' => ?_, fun r h' => by cases h'⟩
   cases h'
   subst h1
   rw [F8, AP, AL, decide_eq_true hi]
   simp only [AY hx, Ha away _ (show away.length < 9223372036854775808 by omega)]
   rw [AM (by omega), B6 (by simp only [AP, List.length_cons, List.length_nil]; omega)]
   by_cases h : (a.2 : Int) ∈ away
   ·simp only [h, decide_true, Bool.not_true, if_true]
    exact ⟨by trivial, by trivial, by omega⟩
   ·simp only [h, decide_false, Bool.not_false]
    exact ⟨by trivial, by trivial, by simp; omega⟩)
  (fun a _ => by rw [F8, AP, AL, decide_eq_false (by omega)]) ([], 0) ⟨rfl, by simp⟩
 have e' : AR F8 many (away, come, n, rings, (0 : Int), [], rings, AQ rings, (0 : Int), ()) = _ := e
 rw [e', BB]
 have hdf : (rings.foldl (fun (a : List (List Int) × Nat) x => (if decide ((a.2 : Int) ∈ away) then a.1 else a.1 ++ [x], a.2 + 1)) ([], 0)).1 = CL (fun k => decide ((k : Int) ∈ away)) 0 rings := by
  have := AHm (fun k => decide ((k : Int) ∈ away)) rings [] 0
  rw [List.nil_append] at this
  exact this
 simp only [hdf]
 obtain ⟨g1, g2⟩ := ALn (fun k => decide ((k : Int) ∈ away)) rings 0
 generalize CL (fun k => decide ((k : Int) ∈ away)) 0 rings = rest at *
 have f := CQ (step := F7) (fun i (a : List (List Int)) => (n, rings, (0 : Int), a, come, AQ come, (i : Int), ())) come
  (fun x a => .inl (a ++ [plain x])) (fun a => .inl (n, rings, (0 : Int), a, ())) (fun i a => a.length = rest.length + i) (by omega)
  (fun i x a hi hx h1 => by
   refine ⟨fun m' h' => ?_, fun r h' => by cases h'⟩
   cases h'
   rw [F7, AP, AL, decide_eq_true hi]
   simp only [AY hx, AJb]
   rw [AM (by omega), B6 (by simp only [AP, List.length_cons, List.length_nil]; omega)]
   exact ⟨rfl, by simp; omega⟩)
  (fun a _ => by rw [F7, AP, AL, decide_eq_false (by omega)]) rest rfl
 have f' : AR F7 many (n, rings, (0 : Int), rest, come, AQ come, (0 : Int), ()) = _ := f
 rw [f', BB]
 have hfold : ∀ (l acc : List (List Int)), l.foldl (fun a x => a ++ [plain x]) acc = acc ++ l.map plain := by
  intro l
  induction l with
  | nil => intro acc; simp
  | cons x l ih => intro acc; rw [List.foldl_cons, ih]; simp
 simp only [hfold]
 obtain ⟨ys, y1, y2, y3⟩ := SL.Tk (rest ++ come.map plain) (by simp; omega) (fun x hx => by
  rcases List.mem_append.1 hx with h | h
  ·exact hne x (g2 x h)
  ·obtain ⟨r, hr, rfl⟩ := List.mem_map.1 h
   exact hce r hr)
 refine ⟨ys, by simp only [y1], y2, y3.imp fun {a b} h => ?_⟩
 simp only [SL.lt, Go.Sort.ltInt, decide_eq_false_iff_not] at h
 exact h
def API (rest : List (List Int)) (p : List Int) : List (List Int) := rest.take (rest.findIdx fun x => !decide (hd x < hd p)) ++ p :: rest.drop (rest.findIdx fun x => !decide (hd x < hd p))
theorem APH (rest : List (List Int)) (p : List Int) : (API rest p).Perm (p :: rest) := by
 rw [API]
 refine List.perm_middle.trans ?_
 rw [List.take_append_drop]
theorem AVU {rest : List (List Int)} {p : List Int} (h : rest.Pairwise (fun a b => hd a < hd b)) (hne : ∀ x ∈ rest, hd x ≠ hd p) : (API rest p).Pairwise (fun a b => hd a < hd b) := by
 rw [API]
 have hlt : ∀ x ∈ rest.take (rest.findIdx fun x => !decide (hd x < hd p)), hd x < hd p := by
  intro x hx
  obtain ⟨j, hj, e⟩ := List.mem_take_iff_getElem.1 hx
  have := List.not_of_lt_findIdx (p := fun x => !decide (hd x < hd p)) (xs := rest) (i := j) (by omega)
  rw [e] at this
  simpa using this
 have hgt : ∀ x ∈ rest.drop (rest.findIdx fun x => !decide (hd x < hd p)), hd p < hd x := by
  intro x hx
  by_cases hk : (rest.findIdx fun x => !decide (hd x < hd p)) < rest.length
  ·have h0 := List.findIdx_getElem (p := fun x => !decide (hd x < hd p)) (xs := rest) (w := hk)
   rw [List.drop_eq_getElem_cons hk] at hx
   have h1 : ¬ hd rest[rest.findIdx fun x => !decide (hd x < hd p)] < hd p := by simpa using h0
   have h2 := hne _ (List.getElem_mem hk)
   rcases List.mem_cons.1 hx with rfl | hx
   ·omega
   ·have hpw : (rest.drop (rest.findIdx fun x => !decide (hd x < hd p))).Pairwise (fun a b => hd a < hd b) := h.sublist (List.drop_sublist _ _)
    rw [List.drop_eq_getElem_cons hk, List.pairwise_cons] at hpw
    have := hpw.1 x hx
    omega
  ·rw [List.drop_of_length_le (by omega)] at hx
   cases hx
 rw [List.pairwise_append, List.pairwise_cons]
 refine ⟨h.sublist (List.take_sublist _ _), ⟨hgt, h.sublist (List.drop_sublist _ _)⟩, fun a ha b hb => ?_⟩
 rcases List.mem_cons.1 hb with rfl | hb
 ·exact hlt a ha
 ·have := hlt a ha
  have := hgt b hb
  omega
end Go.Pev.Pl
end
section
namespace Go.Pev.Pl
open Tok
theorem AEE {n u v : Int} (h : okT n (.arc u v)) : n ≤ LN n u v := by rw [Gc h]; exact (Sw h.1 h.2.1).1
def BY (n : Int) (A B : List Int) (u v : Int) : List Int := u :: LN n u v :: (Bf B v ++ LN n v u :: (Bf A u).tail)
theorem P9 {n u v : Int} {A B : List Int} (hA : TI n A) (hB : TI n B) (hu : u ∈ A) (hv : v ∈ B) (iu : In n u) (iv : In n v) (hd : Dis n A B) :
  TI n (BY n A B u v) ∧ Bf A u = u :: (Bf A u).tail ∧ (∀ t, t < n → (t ∈ BY n A B u v ↔ t ∈ A ∨ t ∈ B)) ∧ u ≠ v ∧ okT n (.arc u v) := by
 obtain ⟨a, a1, a2, a3⟩ := AIE hA (t := .ver u) iu hu
 obtain ⟨b, b1, b2, b3⟩ := AIE hB (t := .ver v) iv hv
 have a1' : Bf A u = (Tok.ver u :: a).map (Ef n) := a1
 have b1' : Bf B v = (Tok.ver v :: b).map (Ef n) := b1
 have huv : u ≠ v := by rintro rfl; exact hd u hu iu.2.2.2 hv
 have ho : okT n (.arc u v) := ⟨iu, iv, huv⟩
 have pA := (Cn hu).perm
 have pB := (Cn hv).perm
 have ht : Bf A u = u :: (Bf A u).tail := by rw [a1']; rfl
 have hall : BY n A B u v = (Tok.ver u :: .arc u v :: (.ver v :: b ++ .arc v u :: a)).map (Ef n) := by
  rw [BY, a1', b1', Gc ho, Gc (Jp ho)]
  simp [Ef]
 refine ⟨⟨_, hall, fun t ht => ?_, T.join a2 b2 fun x hx hx2 => ?_⟩, ht, fun t ht2 => ?_, huv, ho⟩
 ·rcases List.mem_cons.1 ht with rfl | ht
  ·exact iu
  ·rcases List.mem_cons.1 ht with rfl | ht
   ·exact ho
   ·rcases List.mem_append.1 ht with ht | ht
    ·exact b3 t ht
    ·rcases List.mem_cons.1 ht with rfl | ht
     ·exact Jp ho
     ·exact a3 t (List.mem_cons_of_mem _ ht)
 ·have ix := a3 _ hx
  have x1 : x ∈ A := pA.mem_iff.2 (by rw [a1']; exact List.mem_map.2 ⟨_, hx, rfl⟩)
  have x2 : x ∈ B := pB.mem_iff.2 (by rw [b1']; exact List.mem_map.2 ⟨_, hx2, rfl⟩)
  exact hd x x1 ix.2.2.2 x2
 ·have g1 := AEE ho
  have g2 := AEE (Jp ho)
  have e1 : t ∈ A ↔ t = u ∨ t ∈ (Bf A u).tail := by rw [pA.mem_iff, ht, List.mem_cons, List.tail_cons]
  rw [BY, List.mem_cons, List.mem_cons, List.mem_append, List.mem_cons, e1, ← pB.mem_iff]
  constructor
  ·rintro (h | h | h | h | h)
   ·exact .inl (.inl h)
   ·omega
   ·exact .inr h
   ·omega
   ·exact .inl (.inr h)
  ·rintro ((h | h) | h)
   ·exact .inl h
   ·exact .inr (.inr (.inr (.inr h)))
   ·exact .inr (.inr (.inl h))
theorem OP {n : Int} {a b : List (List Int)} (h : a.Perm b) (ha : a.Pairwise (Dis n)) : b.Pairwise (Dis n) := (h.pairwise_iff fun {_ _} hh => hh.symm).1 ha
theorem AWf {n : Int} {rings rest zs : List (List Int)} {A B p : List Int} (h : FR n rings) (hp : rings.Perm (A :: B :: rest)) (hg : RG n p) (hm : ∀ t, t < n → (t ∈ p ↔ t ∈ A ∨ t ∈ B)) (hz : zs.Perm (p :: rest)) (hu : zs.Pairwise (fun a b => hd a < hd b)) : FR n zs := by
 have hd0 := OP hp h.dis
 rw [List.pairwise_cons, List.pairwise_cons] at hd0
 obtain ⟨h1, h2, h3⟩ := hd0
 refine ⟨h.sz, fun l hl => ?_, hu, OP hz.symm ?_, fun v hv => ?_⟩
 ·rcases List.mem_cons.1 (hz.mem_iff.1 hl) with rfl | hl
  ·exact hg
  ·exact h.rg l (hp.mem_iff.2 (by simp [hl]))
 ·rw [List.pairwise_cons]
  refine ⟨fun r hr t ht htn => ?_, h3⟩
  rcases (hm t htn).1 ht with g | g
  ·exact h1 r (by simp [hr]) t g htn
  ·exact h2 r hr t g htn
 ·obtain ⟨l, hl, hvl⟩ := h.cov v hv
  have := hp.mem_iff.1 hl
  simp only [List.mem_cons] at this
  rcases this with rfl | rfl | g
  ·exact ⟨p, hz.mem_iff.2 (by simp), (hm v hv.2.2.2).2 (.inl hvl)⟩
  ·exact ⟨p, hz.mem_iff.2 (by simp), (hm v hv.2.2.2).2 (.inr hvl)⟩
  ·exact ⟨l, hz.mem_iff.2 (by simp [g]), hvl⟩
theorem AAX (n : Int) (rings : List (List Int)) (u v : Int) (hD : Dom rings) : asked ((n, (rings, ())), u, v, ()) = some (if RF n rings then if In n u ∧ In n v then 0 else 10 else 1, ()) := by
 rw [AH8, S0]
 simp only [Lj n rings hD.1 hD.2, SZ]
 by_cases h : RF n rings
 ·by_cases h1 : In n u
  ·by_cases h2 : In n v <;> simp [h, h1, h2]
  ·simp [h, h1]
 ·simp [h]
theorem AVr {n : Int} {rings : List (List Int)} {u v : Int} {i j : Nat} {A B : List Int} (h : FR n rings) (iu : In n u) (iv : In n v) (hi : rings[i]? = some A) (hj : rings[j]? = some B) (hu : u ∈ A) (hv : v ∈ B) (hij : i ≠ j) :
  ∃ zs rest, TW ((n, (rings, ())), u, v, ()) = some (n, zs, 0, ()) ∧ FR n zs ∧ rings.Perm (A :: B :: rest) ∧ zs.Perm (plain (BY n A B u v) :: rest) ∧ Dis n A B := by
 have hD := h.dom
 have hRF := Xg.2 h
 have rA := h.rg A (List.mem_of_getElem? hi)
 have rB := h.rg B (List.mem_of_getElem? hj)
 have hil := (List.getElem?_eq_some_iff.1 hi).1
 have hjl := (List.getElem?_eq_some_iff.1 hj).1
 have pu : plc rings u = (i : Int) := h.ASe hi iu.2.2.2 hu
 have pv : plc rings v = (j : Int) := h.ASe hj iv.2.2.2 hv
 have hperm : rings.Perm (A :: B :: (rings.eraseIdx (max i j)).eraseIdx (min i j)) := by
  rcases Nat.lt_or_gt_of_ne hij with g | g
  ·rw [Nat.max_eq_right (by omega), Nat.min_eq_left (by omega)]
   exact RR g hi hj
  ·rw [Nat.max_eq_left (by omega), Nat.min_eq_right (by omega)]
   exact (RR g hj hi).trans (List.Perm.swap _ _ _)
 have hdis : Dis n A B := by
  have := OP hperm h.dis
  rw [List.pairwise_cons] at this
  exact this.1 B (by simp)
 obtain ⟨l1, l2, l3, huv, ho⟩ := P9 rA.2.2.2 rB.2.2.2 hu hv iu iv hdis
 obtain ⟨hRG, hrot⟩ := AII l1
 have hall : BY n A B u v = u :: LN n u v :: (Bf B v ++ LN n v u :: (Bf A u).tail) := rfl
 have lA : (Bf A u).length ≤ 1000 := by rw [← (Cn hu).perm.length_eq]; exact rA.1.1
 have lB : (Bf B v).length ≤ 1000 := by rw [← (Cn hv).perm.length_eq]; exact rB.1.1
 have hsub : ((rings.eraseIdx (max i j)).eraseIdx (min i j)).Sublist rings := (List.eraseIdx_sublist _ _).trans (List.eraseIdx_sublist _ _)
 have hdrop : CL (fun k => decide ((k : Int) ∈ [(i : Int), (j : Int)])) 0 rings = (rings.eraseIdx (max i j)).eraseIdx (min i j) := by
  rcases Nat.lt_or_gt_of_ne hij with g | g
  ·rw [Nat.max_eq_right (by omega), Nat.min_eq_left (by omega)]
   exact XH _ i j g rings 0 (by omega) fun k _ => decide_eq_decide.2 (by simp only [List.mem_cons, List.not_mem_nil, or_false]; omega)
  ·rw [Nat.max_eq_left (by omega), Nat.min_eq_right (by omega)]
   exact XH _ j i g rings 0 (by omega) fun k _ => decide_eq_decide.2 (by simp only [List.mem_cons, List.not_mem_nil, or_false]; omega)
 have hrl : ((rings.eraseIdx (max i j)).eraseIdx (min i j)).length ≤ rings.length := hsub.length_le
 generalize (rings.eraseIdx (max i j)).eraseIdx (min i j) = rest at *
 have hupr : rest.Pairwise (fun a b => hd a < hd b) := h.up.sublist hsub
 have hner : ∀ l ∈ rest, l ≠ [] := fun l hl => (h.rg l (hsub.subset hl)).2.1
 have hdd := OP hperm h.dis
 rw [List.pairwise_cons, List.pairwise_cons] at hdd
 have hheads : ∀ x ∈ rest, hd x ≠ hd (plain (BY n A B u v)) := by
  intro x hx e
  have g1 := Oi hRG
  have g2 := (l3 _ g1.2.2.2).1 (hrot.perm.mem_iff.2 (ADI hRG.2.1))
  have g3 : hd (plain (BY n A B u v)) ∈ x := e ▸ ADI (hner x hx)
  rcases g2 with g | g
  ·exact hdd.1 x (by simp [hx]) _ g g1.2.2.2 g3
  ·exact hdd.2.1 x hx _ g g1.2.2.2 g3
 have hup := AVU hupr hheads
 have hpz := APH rest (plain (BY n A B u v))
 refine ⟨API rest (plain (BY n A B u v)), rest, ?_, AWf h hperm hRG (fun t ht => by rw [← hrot.perm.mem_iff]; exact l3 t ht) hpz hup, hperm, hpz, hdis⟩
 ·obtain ⟨ys, y1, y2, y3⟩ := AOA n rings [(i : Int), (j : Int)] [BY n A B u v] hD.1 (by simp) (by simp) (fun l hl => (h.rg l hl).2.1) (by simp; exact hRG.2.1)
  have hys : ys = API rest (plain (BY n A B u v)) := by
   refine AFO hup (y2.trans ?_) y3
   rw [hdrop]
   exact (List.perm_append_comm (l₁ := rest) (l₂ := [plain (BY n A B u v)])).trans hpz.symm
  rw [hys] at y1
  rw [TV, M9]
  have s1 : HL (Bf A u) (0 : Int) (1 : Int) = some [u] := by
   have := AIw (xs := Bf A u) (l := 0) (h := 1) (by omega) (by rw [l2]; simp)
   rw [l2] at this ⊢
   exact this
  have s2 : HL (Bf A u) (1 : Int) (AQ (Bf A u)) = some (Bf A u).tail := by
   have := AFA (xs := Bf A u) (l := 1) (by rw [l2]; simp)
   rw [List.drop_one] at this
   exact this
  have d1 : Eg 0 (AG (AQ [u])) (Bf A u) = [u] := by rw [l2]; rfl
  have d2 : Eg 1 (AG (AQ (Bf A u).tail)) (Bf A u) = (Bf A u).tail := by
   rw [Eg, AP, AUF, List.drop_one, List.take_length]
  have hcat : It ([[u], [LN n u v], Bf B v, [LN n v u], (Bf A u).tail], ()) = some (BY n A B u v, ()) := by
   rw [RY _ (by simp) (by simp; omega)]
   simp [BY]
  have ne : ((i : Int)) ≠ (j : Int) := by omega
  simp only [AAX n rings u v hD, hRF, iu, iv, and_self, if_true, Av, Lm n rings _ hD.1 (fun l hl => (hD.2 l hl).1), pu, pv, ne, decide_true, decide_false, Bool.not_true, AY hi, AY hj, APC, ADW, rA.1, rB.1, hu, hv, s1, s2, ARh, d1, d2, hcat, y1]
theorem AK0 {n : Int} {rings : List (List Int)} {u v : Int} (h : FR n rings) (iu : In n u) (iv : In n v) (hp : plc rings u = plc rings v) :
  TW ((n, (rings, ())), u, v, ()) = some (n, rings, 5, ()) := by
 have hD := h.dom
 have hRF := Xg.2 h
 rw [TV, M9]
 simp only [AAX n rings u v hD, hRF, iu, iv, and_self, if_true, Av, Lm n rings _ hD.1 (fun l hl => (hD.2 l hl).1), hp, decide_true, Bool.not_true]
end Go.Pev.Pl
end
section
namespace Go.Pev.Pl
open Tok
def Mm (rings : List (List Int)) (a b : Int) : Prop := ∃ A ∈ rings, a ∈ A ∧ b ∈ A
structure FC (n : Int) (rings : List (List Int)) (l : List Edge) : Prop where
 fr : FR n rings
 sam : ∀ a b, In n a → In n b → (Mm rings a b ↔ Con l a b)
 arcs : ∀ A ∈ rings, ∀ u v, okT n (.arc u v) → LN n u v ∈ A → ∃ e ∈ l, (e.1 = u ∧ e.2.1 = v) ∨ (e.1 = v ∧ e.2.1 = u)
theorem FR.AFu {n : Int} {rings : List (List Int)} (h : FR n rings) {a b : Int} (ia : In n a) (ib : In n b) : plc rings a = plc rings b ↔ Mm rings a b := by
 obtain ⟨i, A, pa, hi, ha, _⟩ := Vf (h.cov a ia)
 obtain ⟨j, B, pb, hj, hb, _⟩ := Vf (h.cov b ib)
 rw [pa, pb]
 constructor
 ·intro e
  have : i = j := by omega
  subst this
  rw [hi] at hj
  cases hj
  exact ⟨A, List.mem_of_getElem? hi, ha, hb⟩
 ·rintro ⟨K, hK, h1, h2⟩
  obtain ⟨k, hk⟩ : ∃ k : Nat, rings[k]? = some K := by
   obtain ⟨k, hk, rfl⟩ := List.getElem_of_mem hK
   exact ⟨k, List.getElem?_eq_getElem hk⟩
  rw [h.uniq hi hk ia.2.2.2 ha h1, h.uniq hj hk ib.2.2.2 hb h2]
theorem FR.one {n : Int} {rings : List (List Int)} (h : FR n rings) {A B : List Int} (hA : A ∈ rings) (hB : B ∈ rings) {v : Int} (iv : v < n) (h1 : v ∈ A) (h2 : v ∈ B) : A = B := by
 obtain ⟨i, hi, rfl⟩ := List.getElem_of_mem hA
 obtain ⟨j, hj, rfl⟩ := List.getElem_of_mem hB
 have := h.uniq (List.getElem?_eq_getElem hi) (List.getElem?_eq_getElem hj) iv h1 h2
 subst this
 rfl
theorem Mm.perm {a b : List (List Int)} (h : a.Perm b) (x y : Int) : Mm a x y ↔ Mm b x y := by
 constructor
 ·rintro ⟨A, hA, h1⟩; exact ⟨A, h.mem_iff.1 hA, h1⟩
 ·rintro ⟨A, hA, h1⟩; exact ⟨A, h.mem_iff.2 hA, h1⟩
theorem APx {n u v x y : Int} {A B : List Int} (hA : TI n A) (hB : TI n B) (hu : u ∈ A) (hv : v ∈ B) (iu : In n u) (iv : In n v) (hd : Dis n A B) (ho : okT n (.arc x y)) (h : LN n x y ∈ BY n A B u v) : LN n x y ∈ A ∨ LN n x y ∈ B ∨ (x = u ∧ y = v) ∨ (x = v ∧ y = u) := by
 obtain ⟨_, l2, _, huv, ho2⟩ := P9 hA hB hu hv iu iv hd
 have pA := (Cn hu).perm
 have pB := (Cn hv).perm
 have g := AEE ho
 rw [BY, List.mem_cons, List.mem_cons, List.mem_append, List.mem_cons] at h
 rcases h with h | h | h | h | h
 ·have := iu.2.2.2; omega
 ·rw [Gc ho, Gc ho2] at h
  have := OM ho ho2 h
  cases this
  exact .inr (.inr (.inl ⟨rfl, rfl⟩))
 ·exact .inr (.inl (pB.mem_iff.2 h))
 ·rw [Gc ho, Gc (Jp ho2)] at h
  have := OM ho (Jp ho2) h
  cases this
  exact .inr (.inr (.inr ⟨rfl, rfl⟩))
 ·refine .inl (pA.mem_iff.2 ?_)
  rw [l2]
  exact List.mem_cons_of_mem _ h
theorem AWg {n : Int} {rings : List (List Int)} {l : List Edge} {e : Edge} (h : FC n rings l) (iu : In n e.1) (iv : In n e.2.1) :
  ∃ zs q, TW ((n, (rings, ())), e.1, e.2.1, ()) = some (n, zs, q, ()) ∧ FC n zs (l ++ [e]) ∧ (q = 0 ∧ zs.length + 1 = rings.length ∨ q = 5 ∧ zs = rings) := by
 have hF := h.fr
 obtain ⟨i, A, pu, hi, hu, _⟩ := Vf (hF.cov _ iu)
 obtain ⟨j, B, pv, hj, hv, _⟩ := Vf (hF.cov _ iv)
 have mA := List.mem_of_getElem? hi
 have mB := List.mem_of_getElem? hj
 by_cases hij : i = j
 ·have hpe : plc rings e.1 = plc rings e.2.1 := by rw [pu, pv, hij]
  refine ⟨rings, 5, AK0 hF iu iv hpe, ⟨hF, fun a b ia ib => ?_, fun A hA u v ho hm => ?_⟩, .inr ⟨rfl, rfl⟩⟩
  ·rw [h.sam a b ia ib, Con.snoc]
   have hc : Con l e.1 e.2.1 := (h.sam _ _ iu iv).1 ((hF.AFu iu iv).1 hpe)
   constructor
   ·exact .inl
   ·rintro (g | ⟨g1, g2⟩ | ⟨g1, g2⟩)
    ·exact g
    ·exact g1.trans (hc.trans g2)
    ·exact g1.trans (hc.symm.trans g2)
  ·obtain ⟨e', h1, h2⟩ := h.arcs A hA u v ho hm
   exact ⟨e', by simp [h1], h2⟩
 ·obtain ⟨zs, rest, q1, q3, q4, q5, q6⟩ := AVr hF iu iv hi hj hu hv hij
  have gA := hF.rg A mA
  have gB := hF.rg B mB
  obtain ⟨l1, l2, l3, huv, ho⟩ := P9 gA.2.2.2 gB.2.2.2 hu hv iu iv q6
  obtain ⟨hRG, hrot⟩ := AII l1
  have len1 := q4.length_eq
  have len2 := q5.length_eq
  simp only [List.length_cons] at len1 len2
  refine ⟨zs, 0, q1, ⟨q3, fun a b ia ib => ?_, fun K hK x y hxy hm => ?_⟩, .inl ⟨rfl, by omega⟩⟩
  ·rw [Mm.perm q5, Con.snoc, ← h.sam a b ia ib, ← h.sam a _ ia iu, ← h.sam _ b iv ib, ← h.sam a _ ia iv, ← h.sam _ b iu ib]
   have pmem : ∀ x, In n x → (x ∈ plain (BY n A B e.1 e.2.1) ↔ x ∈ A ∨ x ∈ B) := fun x ix => by rw [← hrot.perm.mem_iff]; exact l3 x ix.2.2.2
   have sA : ∀ x, In n x → (Mm rings x e.1 ↔ x ∈ A) := fun x ix => by
    constructor
    ·rintro ⟨K, hK, h1, h2⟩
     rw [hF.one mA hK iu.2.2.2 hu h2]; exact h1
    ·intro hx; exact ⟨A, mA, hx, hu⟩
   have sB : ∀ x, In n x → (Mm rings x e.2.1 ↔ x ∈ B) := fun x ix => by
    constructor
    ·rintro ⟨K, hK, h1, h2⟩
     rw [hF.one mB hK iv.2.2.2 hv h2]; exact h1
    ·intro hx; exact ⟨B, mB, hx, hv⟩
   have sy : ∀ x y, Mm rings x y ↔ Mm rings y x := fun x y => ⟨fun ⟨K, a, b, c⟩ => ⟨K, a, c, b⟩, fun ⟨K, a, b, c⟩ => ⟨K, a, c, b⟩⟩
   rw [sA a ia, sB a ia, sy e.2.1 b, sB b ib, sy e.1 b, sA b ib]
   have hs : Mm rings a b ↔ (a ∈ A ∧ b ∈ A) ∨ (a ∈ B ∧ b ∈ B) ∨ ∃ K ∈ rest, a ∈ K ∧ b ∈ K := by
    rw [Mm.perm q4]
    simp only [Mm, List.mem_cons, exists_eq_or_imp]
   have hz : Mm (plain (BY n A B e.1 e.2.1) :: rest) a b ↔ ((a ∈ A ∨ a ∈ B) ∧ (b ∈ A ∨ b ∈ B)) ∨ ∃ K ∈ rest, a ∈ K ∧ b ∈ K := by
    simp only [Mm, List.mem_cons, exists_eq_or_imp, pmem a ia, pmem b ib]
   rw [hs, hz]
   constructor
   ·rintro (⟨h1 | h1, h2 | h2⟩ | h)
    ·exact .inl (.inl ⟨h1, h2⟩)
    ·exact .inr (.inl ⟨h1, h2⟩)
    ·exact .inr (.inr ⟨h1, h2⟩)
    ·exact .inl (.inr (.inl ⟨h1, h2⟩))
    ·exact .inl (.inr (.inr h))
   ·rintro ((⟨h1, h2⟩ | ⟨h1, h2⟩ | h) | ⟨h1, h2⟩ | ⟨h1, h2⟩)
    ·exact .inl ⟨.inl h1, .inl h2⟩
    ·exact .inl ⟨.inr h1, .inr h2⟩
    ·exact .inr h
    ·exact .inl ⟨.inl h1, .inr h2⟩
    ·exact .inl ⟨.inr h1, .inl h2⟩
  ·have old : ∀ K ∈ rings, LN n x y ∈ K → ∃ e' ∈ l ++ [e], (e'.1 = x ∧ e'.2.1 = y) ∨ (e'.1 = y ∧ e'.2.1 = x) := fun K hK hm => by
    obtain ⟨e', h1, h2⟩ := h.arcs K hK x y hxy hm
    exact ⟨e', by simp [h1], h2⟩
   rcases List.mem_cons.1 (q5.mem_iff.1 hK) with rfl | hK
   ·rcases APx gA.2.2.2 gB.2.2.2 hu hv iu iv q6 hxy (hrot.perm.mem_iff.2 hm) with g | g | ⟨g1, g2⟩ | ⟨g1, g2⟩
    ·exact old A mA g
    ·exact old B mB g
    ·exact ⟨e, by simp, .inl ⟨g1.symm, g2.symm⟩⟩
    ·exact ⟨e, by simp, .inr ⟨g2.symm, g1.symm⟩⟩
   ·exact old K (q4.mem_iff.2 (by simp [hK])) hm
theorem AMN {N : Nat} (h1 : 1 ≤ N) (h2 : N ≤ 64) : FC (N : Int) (Bg N) [] := by
 have hS : ∀ A ∈ Bg N, ∃ k : Nat, k < N ∧ A = [(k : Int)] := fun A hA => by
  simp only [Bg, List.mem_map, List.mem_range] at hA
  obtain ⟨k, hk, rfl⟩ := hA
  exact ⟨k, hk, rfl⟩
 have key : ∀ k, k < N → In (N : Int) (k : Int) := fun k hk => ⟨by omega, by omega, by omega, by omega⟩
 refine ⟨⟨⟨by omega, by omega⟩, fun l hl => ?_, ?_, ?_, fun v hv => ?_⟩, fun a b ia ib => ?_, fun A hA u v ho hm => ?_⟩
 ·obtain ⟨k, hk, rfl⟩ := hS l hl
  refine ⟨⟨by simp, fun x hx => ?_, by simp⟩, by simp, rfl, (AXM (N : Int) k).2 (key k hk)⟩
  simp only [List.mem_singleton] at hx
  omega
 ·rw [Bg, List.pairwise_map]
  exact List.pairwise_lt_range.imp fun h => by simp only [hd, List.headD_cons]; omega
 ·rw [Bg, List.pairwise_map]
  exact List.pairwise_lt_range.imp fun {a b} h t ht _ ht2 => by
   simp only [List.mem_singleton] at ht ht2
   omega
 ·obtain ⟨k, rfl⟩ := Int.eq_ofNat_of_zero_le hv.2.2.1
  have := hv.2.2.2
  exact ⟨[(k : Int)], by simp only [Bg, List.mem_map, List.mem_range]; exact ⟨k, by omega, rfl⟩, by simp⟩
 ·constructor
  ·rintro ⟨A, hA, h1, h2⟩
   obtain ⟨k, _, rfl⟩ := hS A hA
   simp only [List.mem_singleton] at h1 h2
   rw [h1, h2]
   exact .refl _
  ·intro hc
   have := hc.nil
   subst this
   obtain ⟨k, rfl⟩ := Int.eq_ofNat_of_zero_le ia.2.2.1
   have := ia.2.2.2
   exact ⟨[(k : Int)], by simp only [Bg, List.mem_map, List.mem_range]; exact ⟨k, by omega, rfl⟩, by simp, by simp⟩
 ·obtain ⟨k, hk, rfl⟩ := hS A hA
  simp only [List.mem_singleton] at hm
  have := AEE ho
  omega
theorem AHd (l : List Edge) (hs : l.length < 1073741824) : ends (l, ()) = some (l.flatMap fun e => [e.1, e.2.1], ()) := by
 rw [ANp, ADh]
 have e := CQ (step := Ip) (fun i (a : List Int) => (a, l, AQ l, (i : Int), ())) l (fun x a => .inl (a ++ [x.1, x.2.1])) (fun a => .inl (a, ())) (fun i a => a.length = 2 * i) (by omega)
  (fun i x a hi hx h1 => by
   refine ⟨fun m' h' => ?_, fun r h' => by cases h'⟩
   cases h'
   rw [Ip, AP, AL, decide_eq_true hi]
   simp only [AY hx]
   rw [AM (by omega), B6 (by simp only [AP, List.length_cons, List.length_nil]; omega)]
   exact ⟨rfl, by simp; omega⟩)
  (fun a _ => by rw [Ip, AP, AL, decide_eq_false (by omega)]) [] rfl
 have e' : AR Ip many ([], l, AQ l, (0 : Int), ()) = _ := e
 rw [e', BB]
 have hf : ∀ (xs : List Edge) (acc : List Int), xs.foldl (fun a x => a ++ [x.1, x.2.1]) acc = acc ++ xs.flatMap fun e => [e.1, e.2.1] := by
  intro xs
  induction xs with
  | nil => intro acc; simp
  | cons x xs ih => intro acc; rw [List.foldl_cons, ih, List.flatMap_cons]; simp
 rw [hf]
 rfl
theorem AUC (n : Int) (l : List Edge) : ((l.flatMap fun e => [e.1, e.2.1]).all fun v => decide (In n v)) = l.all fun e => decide (In n e.1 ∧ In n e.2.1) := by
 induction l with
 | nil => rfl
 | cons e l ih =>
  rw [List.flatMap_cons, List.all_append, List.all_cons, ih]
  simp
theorem AUB (l : List Edge) : (l.flatMap fun e => [e.1, e.2.1]).length = 2 * l.length := by
 induction l with
 | nil => rfl
 | cons e l ih => rw [List.flatMap_cons, List.length_append, ih]; simp; omega
theorem AKz {n : Int} (l : List Edge) (hs : l.length < 1073741824) (ha : ∀ e ∈ l, In n e.1 ∧ In n e.2.1) :
  ∀ (m i cnt : Nat) (rings : List (List Int)) (taken : List Bool), i + m = l.length → taken.length = i → FC n rings (l.take i) → m < cnt →
  ∃ zs taken', AU Cy cnt (n, rings, (0 : Int), taken, l, (l.length : Int), (i : Int), ()) = some (.inl (n, zs, (0 : Int), taken', ())) ∧ FC n zs l ∧ taken'.length = l.length := by
 intro m
 induction m with
 | zero =>
  intro i cnt rings taken hi ht h hc
  obtain ⟨cnt, rfl⟩ : ∃ c, cnt = c + 1 := ⟨cnt - 1, by omega⟩
  rw [List.take_of_length_le (by omega)] at h
  refine ⟨rings, taken, ?_, h, by omega⟩
  rw [AU, Cy, AL, decide_eq_false (by omega)]
 | succ m ih =>
  intro i cnt rings taken hi ht h hc
  obtain ⟨cnt, rfl⟩ : ∃ c, cnt = c + 1 := ⟨cnt - 1, by omega⟩
  have hi' : i < l.length := by omega
  have hx : l[i]? = some l[i] := List.getElem?_eq_getElem hi'
  obtain ⟨iu, iv⟩ := ha _ (List.getElem_mem hi')
  obtain ⟨zs, q, e1, e2, _⟩ := AWg h iu iv
  rw [AU, Cy, AL, decide_eq_true hi']
  simp only [AY hx, e1]
  rw [AM (by omega), B6 (by simp only [AP, List.length_cons, List.length_nil]; omega)]
  rw [← List.take_succ_eq_append_getElem hi'] at e2
  exact ih (i + 1) cnt zs _ (by omega) (by simp [HZ, ht]) e2 (by omega)
theorem ANk (k : Int) (l : List Edge) (hk : Sz k) (hs : l.length < 1073741824) :
  ((∀ e ∈ l, In k e.1 ∧ In k e.2.1) ∧ ∃ rings, fof (k, l, ()) = some ((k, (rings, ())), 0, ()) ∧ FC k rings l) ∨
  (¬ (∀ e ∈ l, In k e.1 ∧ In k e.2.1) ∧ fof (k, l, ()) = some ((0, ([], ())), 10, ())) := by
 have hmany : 9223372036854775808 < many := by simp only [many]; omega
 rw [AT2, ANl]
 have hm : So k = (k, Bg k.toNat, 0, ()) := by rw [So, if_pos hk]
 obtain ⟨s1, s2⟩ := hk
 obtain ⟨N, rfl⟩ := Int.eq_ofNat_of_zero_le (show 0 ≤ k by omega)
 have h0 := AMN (N := N) (by omega) (by omega)
 have hD := h0.fr.dom
 have hRF := Xg.2 h0.fr
 have hfl := AUB l
 have hth : Il (((N : Int), (Bg N, ())), l.flatMap fun e => [e.1, e.2.1], ()) = some (if ∀ e ∈ l, In (N : Int) e.1 ∧ In (N : Int) e.2.1 then 0 else 10, ()) := by
  rw [W0 _ _ _ hD (by omega), AUC, AWX, if_pos hRF]
  by_cases ha : ∀ e ∈ l, In (N : Int) e.1 ∧ In (N : Int) e.2.1
  ·rw [if_pos ha, if_pos (List.all_eq_true.2 fun e he => decide_eq_true (ha e he))]
  ·rw [if_neg ha, if_neg]
   intro hc
   exact ha fun e he => of_decide_eq_true (List.all_eq_true.1 hc e he)
 simp only [AON, hm, Int.toNat_natCast, AHA, Bool.not_true]
 rw [AAM, OF, RV, Ir]
 by_cases ha : ∀ e ∈ l, In (N : Int) e.1 ∧ In (N : Int) e.2.1
 ·refine .inl ⟨ha, ?_⟩
  rw [if_pos ha] at hth
  obtain ⟨zs, taken, e1, e2, _⟩ := AKz l hs ha l.length 0 many (Bg N) [] (by omega) rfl (by rw [List.take_zero]; exact h0) (by omega)
  have e1' : AU Cy many ((N : Int), Bg N, (0 : Int), [], l, (l.length : Int), (0 : Int), ()) = _ := e1
  simp only [AHd l hs, hth, AHA, Bool.not_true, Ag, AP, e1']
  exact ⟨zs, rfl, e2⟩
 ·refine .inr ⟨ha, ?_⟩
  rw [if_neg ha] at hth
  simp only [AHd l hs, hth, Av]
  rfl
end Go.Pev.Pl
end
section
namespace Go.Pev.Pl
open Tok
def cl (out : List Int) (v : Int) : Int := out.getD v.toNat 0
def CI (N : Nat) (l : List Edge) (out : List Int) : Prop := out.length = N ∧ ∀ k, k < N → 0 ≤ out.getD k 0 ∧ out.getD k 0 ≤ (k : Int) ∧ Con l (k : Int) (out.getD k 0)
theorem AMm : ∀ (l : List Int) (k : Nat) (x : Int), k < l.length → (l.set k x).sum = l.sum - l.getD k 0 + x := by
 intro l
 induction l with
 | nil => intro k x h; simp at h
 | cons y l ih =>
  intro k x h
  cases k with
  | zero => simp; omega
  | succ k =>
   have := ih k x (by simpa using h)
   simp only [List.set_cons_succ, List.sum_cons, List.getD_cons_succ, this]
   omega
theorem Lo {N : Nat} {l : List Edge} {out : List Int} (h : CI N l out) (hN : N ≤ 64) : 0 ≤ out.sum ∧ out.sum ≤ 4096 := by
 obtain ⟨h1, h2⟩ := h
 have key : ∀ (xs : List Int), (∀ x ∈ xs, 0 ≤ x ∧ x ≤ 64) → 0 ≤ xs.sum ∧ xs.sum ≤ 64 * (xs.length : Int) := by
  intro xs
  induction xs with
  | nil => intro _; simp
  | cons x xs ih =>
   intro h
   have h3 := ih fun y hy => h y (List.mem_cons_of_mem _ hy)
   have h4 := h x (by simp)
   simp only [List.sum_cons, List.length_cons]
   omega
 have := key out fun x hx => by
  obtain ⟨k, hk, rfl⟩ := List.getElem_of_mem hx
  have h5 := h2 k (by omega)
  rw [List.getD_eq_getElem?_getD, List.getElem?_eq_getElem hk, Option.getD_some] at h5
  omega
 omega
theorem AXV (N : Nat) (l : List Edge) (hs : l.length < 1073741824) (ha : ∀ e ∈ l, In (N : Int) e.1 ∧ In (N : Int) e.2.1) :
  ∀ (m i cnt : Nat) (out : List Int) (more : Bool), i + m = l.length → CI N l out → m < cnt →
  ∃ out' more', AU CN cnt ((N : Int), l, out, more, (i : Int), ()) = some (.inl ((N : Int), l, out', more', ())) ∧ CI N l out' ∧
   ((more' = more ∧ out' = out ∧ ∀ e ∈ l.drop i, cl out e.1 = cl out e.2.1) ∨ (more' = true ∧ out'.sum < out.sum)) := by
 intro m
 induction m with
 | zero =>
  intro i cnt out more hi h hc
  obtain ⟨cnt, rfl⟩ : ∃ c, cnt = c + 1 := ⟨cnt - 1, by omega⟩
  refine ⟨out, more, ?_, h, .inl ⟨rfl, rfl, ?_⟩⟩
  ·rw [AU, CN, AP, AL, decide_eq_false (by omega)]
  ·rw [List.drop_of_length_le (by omega)]
   intro e he; cases he
 | succ m ih =>
  intro i cnt out more hi h hc
  obtain ⟨cnt, rfl⟩ : ∃ c, cnt = c + 1 := ⟨cnt - 1, by omega⟩
  have hi' : i < l.length := by omega
  have hx : l[i]? = some l[i] := List.getElem?_eq_getElem hi'
  have hm := List.getElem_mem hi'
  have hdr : l.drop i = l[i] :: l.drop (i + 1) := List.drop_eq_getElem_cons hi'
  rw [AU, CN, AP, AL, decide_eq_true hi']
  simp only [AY hx]
  rw [hdr, AM (by omega)]
  generalize l[i] = e at *
  obtain ⟨iu, iv⟩ := ha e hm
  have hcon := Con.edge e hm
  obtain ⟨eu, ev, eu'⟩ := e
  simp only at iu iv hcon ⊢
  obtain ⟨u, rfl⟩ := Int.eq_ofNat_of_zero_le iu.2.2.1
  obtain ⟨v, rfl⟩ := Int.eq_ofNat_of_zero_le iv.2.2.1
  have hu : u < N := by have := iu.2.2.2; omega
  have hv : v < N := by have := iv.2.2.2; omega
  have hul : u < out.length := by rw [h.1]; exact hu
  have hvl : v < out.length := by rw [h.1]; exact hv
  rw [Aj, decide_eq_false (by omega)]
  simp only []
  rw [Aj, decide_eq_false (by omega)]
  simp only []
  rw [A2, decide_eq_false (by omega)]
  simp only []
  rw [A2, decide_eq_false (by omega)]
  simp only [DH (0 : Int) hul, DH (0 : Int) hvl, HY, Is, Av]
  by_cases hq : out.getD u 0 = out.getD v 0
  ·rw [decide_eq_true hq]
   obtain ⟨out', more', e1, e2, e3⟩ := ih (i + 1) cnt out more (by omega) h (by omega)
   refine ⟨out', more', e1, e2, ?_⟩
   rcases e3 with ⟨g1, g2, g3⟩ | g
   ·refine .inl ⟨g1, g2, fun e' he' => ?_⟩
    rcases List.mem_cons.1 he' with rfl | he'
    ·simpa [cl] using hq
    ·exact g3 e' he'
   ·exact .inr g
  ·rw [decide_eq_false hq]
   have hne : u ≠ v := by rintro rfl; exact hq rfl
   have hlow : DT (out.getD u 0) (out.getD v 0) = if out.getD v 0 < out.getD u 0 then out.getD v 0 else out.getD u 0 := rfl
   generalize hlw : DT (out.getD u 0) (out.getD v 0) = low at *
   have hvl2 : v < (out.set u low).length := by simp; exact hvl
   simp only [DH (0 : Int) hvl2]
   have cu := h.2 u hu
   have cv := h.2 v hv
   have hset : ∀ k, k < N → ((out.set u low).set v low).getD k 0 = if k = u ∨ k = v then low else out.getD k 0 := by
    intro k hk
    have hkl : k < out.length := by rw [h.1]; exact hk
    by_cases k2 : k = v
    ·subst k2
     simp [List.getD_eq_getElem?_getD, hkl]
    ·by_cases k1 : k = u
     ·subst k1
      rw [if_pos (.inl rfl), List.getD_eq_getElem?_getD, List.getElem?_set_ne (Ne.symm k2)]
      simp [hkl]
     ·rw [if_neg (by omega), List.getD_eq_getElem?_getD, List.getElem?_set_ne (Ne.symm k2), List.getElem?_set_ne (Ne.symm k1), List.getD_eq_getElem?_getD]
   have hlc : 0 ≤ low ∧ low ≤ (u : Int) ∧ low ≤ (v : Int) ∧ Con l (u : Int) low := by
    rw [hlow]
    split
    ·exact ⟨cv.1, by omega, cv.2.1, hcon.trans cv.2.2⟩
    ·exact ⟨cu.1, cu.2.1, by omega, cu.2.2⟩
   have hI : CI N l ((out.set u low).set v low) := by
    refine ⟨by simp [h.1], fun k hk => ?_⟩
    rw [hset k hk]
    split
    ·rename_i hkk
     rcases hkk with rfl | rfl
     ·exact ⟨hlc.1, hlc.2.1, hlc.2.2.2⟩
     ·exact ⟨hlc.1, hlc.2.2.1, hcon.symm.trans hlc.2.2.2⟩
    ·exact h.2 k hk
   have hsum : ((out.set u low).set v low).sum < out.sum := by
    rw [AMm _ _ _ hvl2, AMm _ _ _ hul]
    have : (out.set u low).getD v 0 = out.getD v 0 := by
     rw [List.getD_eq_getElem?_getD, List.getElem?_set_ne hne, ← List.getD_eq_getElem?_getD]
    rw [this, hlow]
    split <;> omega
   obtain ⟨out', more', e1, e2, e3⟩ := ih (i + 1) cnt _ true (by omega) hI (by omega)
   refine ⟨out', more', e1, e2, .inr ?_⟩
   rcases e3 with ⟨g1, g2, _⟩ | ⟨g1, g2⟩
   ·exact ⟨g1, by rw [g2]; exact hsum⟩
   ·exact ⟨g1, by omega⟩
theorem AWt (N : Nat) (hN : N ≤ 64) (l : List Edge) (hs : l.length < 1073741824) (ha : ∀ e ∈ l, In (N : Int) e.1 ∧ In (N : Int) e.2.1) :
  ∀ (m cnt : Nat) (out : List Int), out.sum.toNat = m → CI N l out → m + 1 < cnt →
  ∃ out', AU DB cnt ((N : Int), l, out, true, ()) = some (.inl (out', ())) ∧ CI N l out' ∧ ∀ e ∈ l, cl out' e.1 = cl out' e.2.1 := by
 have hmany : 9223372036854775808 < many := by simp only [many]; omega
 intro m
 induction m using Nat.strongRecOn with
 | _ m ih =>
 intro cnt out hm h hc
 obtain ⟨cnt, rfl⟩ : ∃ c, cnt = c + 1 := ⟨cnt - 1, by omega⟩
 rw [AU, DB]
 obtain ⟨out', more', e1, e2, e3⟩ := AXV N l hs ha l.length 0 many out false (by omega) h (by omega)
 have e1' : AU CN many ((N : Int), l, out, false, (0 : Int), ()) = _ := e1
 simp only [Ag, e1']
 rcases e3 with ⟨g1, g2, g3⟩ | ⟨g1, g2⟩
 ·subst g1 g2
  obtain ⟨cnt, rfl⟩ : ∃ c, cnt = c + 1 := ⟨cnt - 1, by omega⟩
  rw [AU, DB]
  exact ⟨_, rfl, e2, by simpa using g3⟩
 ·subst g1
  have b1 := Lo h hN
  have b2 := Lo e2 hN
  exact ih out'.sum.toNat (by omega) cnt out' rfl e2 (by omega)
structure PC (n : Int) (l : List Edge) (out : List Int) : Prop where
 len : (out.length : Int) = n
 same : ∀ a b, In n a → In n b → (cl out a = cl out b ↔ Con l a b)
 isin : ∀ a, In n a → In n (cl out a)
 con : ∀ a, In n a → Con l a (cl out a)
 least : ∀ a b, In n a → In n b → Con l a b → cl out a ≤ b
theorem DJ (n : Int) (l : List Edge) (hn : Sz n) (hs : l.length < 1073741824) (ha : ∀ e ∈ l, In n e.1 ∧ In n e.2.1) : ∃ out, Fv (n, l, ()) = some (out, ()) ∧ PC n l out := by
 have hmany : 9223372036854775808 < many := by simp only [many]; omega
 obtain ⟨s1, s2⟩ := hn
 obtain ⟨N, rfl⟩ := Int.eq_ofNat_of_zero_le (show 0 ≤ n by omega)
 rw [Oe, HA]
 have key : ∀ (m k cnt : Nat), k + m = N → m < cnt → AU CO cnt ((N : Int), l, (List.range k).map (fun (k : Nat) => (k : Int)), (k : Int), ()) = some (.inl ((N : Int), l, (List.range N).map (fun (k : Nat) => (k : Int)), ())) := by
  intro m
  induction m with
  | zero =>
   intro k cnt hk hc
   obtain ⟨cnt, rfl⟩ : ∃ c, cnt = c + 1 := ⟨cnt - 1, by omega⟩
   have : k = N := by omega
   subst this
   rw [AU, CO, AL, decide_eq_false (by omega)]
  | succ m ih =>
   intro k cnt hk hc
   obtain ⟨cnt, rfl⟩ : ∃ c, cnt = c + 1 := ⟨cnt - 1, by omega⟩
   have hih := ih (k + 1) cnt (by omega) (by omega)
   rw [List.range_succ, List.map_append] at hih
   rw [AU, CO, AL, decide_eq_true (by omega)]
   simp only []
   rw [AM (by omega), B6 (by simp only [AP, List.length_cons, List.length_nil, List.length_map, List.length_range]; omega)]
   exact hih
 have e0 := key N 0 many (by omega) (by omega)
 have e0' : AU CO many ((N : Int), l, [], (0 : Int), ()) = _ := e0
 have h0 : CI N l ((List.range N).map (fun (k : Nat) => (k : Int))) := by
  refine ⟨by simp, fun k hk => ?_⟩
  have : ((List.range N).map (fun (k : Nat) => (k : Int))).getD k 0 = (k : Int) := by simp [List.getD_eq_getElem?_getD, hk]
  rw [this]
  exact ⟨by omega, by omega, .refl _⟩
 have hb := Lo h0 (by omega)
 obtain ⟨out, e1, e2, e3⟩ := AWt N (by omega) l hs ha _ many _ rfl h0 (by omega)
 simp only [Ag, e0', e1]
 have fact : ∀ a, In (N : Int) a → 0 ≤ cl out a ∧ cl out a ≤ a ∧ Con l a (cl out a) := by
  intro a hia
  obtain ⟨k, rfl⟩ := Int.eq_ofNat_of_zero_le hia.2.2.1
  have := e2.2 k (by have := hia.2.2.2; omega)
  simpa [cl] using this
 refine ⟨out, rfl, by rw [e2.1], fun a b ia ib => ⟨fun h => ?_, fun h => h.const e3⟩, fun a ia => ?_, fun a ia => (fact a ia).2.2, fun a b ia ib h => ?_⟩
 ·have h1 := (fact a ia).2.2
  have h2 := (fact b ib).2.2
  rw [← h] at h2
  exact h1.trans h2.symm
 ·have := fact a ia
  have h3 := ia.2.2.2
  exact ⟨s1, s2, by omega, by omega⟩
 ·have h1 : cl out a = cl out b := h.const e3
  have := (fact b ib).2.1
  omega
end Go.Pev.Pl
end
end
section
namespace Go.Pev.Pl
theorem AUW {σ ρ : Type} {step : σ → Option (σ ⊕ ρ)} (st : Nat → Nat → σ) (P : Nat → Bool) (fin : Nat → ρ) (lo hi : Nat)
  (h : ∀ i j, lo ≤ i → i < j → j ≤ hi → step (st i j) = some (.inl (if P ((i + j) / 2) = true then st ((i + j) / 2 + 1) j else st i ((i + j) / 2))))
  (hN : ∀ i, lo ≤ i → i ≤ hi → step (st i i) = some (.inr (fin i)))
  (mono : ∀ x y, lo ≤ x → x ≤ y → y < hi → P y = true → P x = true) :
  ∀ (m i j n : Nat), j - i = m → lo ≤ i → i ≤ j → j ≤ hi → m < n → (∀ x, lo ≤ x → x < i → P x = true) → (∀ x, j ≤ x → x < hi → P x = false) →
  ∃ k, lo ≤ k ∧ k ≤ hi ∧ (∀ x, lo ≤ x → x < k → P x = true) ∧ (∀ x, k ≤ x → x < hi → P x = false) ∧ AU step n (st i j) = some (fin k) := by
 intro m
 induction m using Nat.strongRecOn with
 | ind m ih =>
  intro i j n hm hi hij hj hn h1 h2
  obtain ⟨n, rfl⟩ : ∃ k, n = k + 1 := ⟨n - 1, by omega⟩
  by_cases he : i = j
  ·subst he
   exact ⟨i, hi, hj, h1, h2, by rw [AU, hN i hi hj]⟩
  ·have hlt : i < j := by omega
   rw [AU, h i j hi hlt hj]
   by_cases hp : P ((i + j) / 2) = true
   ·rw [if_pos hp]
    exact ih (j - ((i + j) / 2 + 1)) (by omega) ((i + j) / 2 + 1) j n rfl (by omega) (by omega) hj (by omega) (fun x a b => mono x ((i + j) / 2) a (by omega) (by omega) hp) h2
   ·rw [if_neg hp]
    refine ih ((i + j) / 2 - i) (by omega) i ((i + j) / 2) n rfl hi (by omega) (by omega) (by omega) h1 (fun x a b => ?_)
    cases hx : P x
    ·rfl
    ·exact absurd (mono ((i + j) / 2) x (by omega) a b hx) hp
theorem AXL {σ ρ : Type} {step : σ → Option (σ ⊕ ρ)} (st : Nat → Nat → σ) (P : Nat → Bool) (fin : Nat → ρ) (lo hi : Nat) (hlh : lo ≤ hi) (hs : hi < 9223372036854775808)
  (h : ∀ i j, lo ≤ i → i < j → j ≤ hi → step (st i j) = some (.inl (if P ((i + j) / 2) = true then st ((i + j) / 2 + 1) j else st i ((i + j) / 2))))
  (hN : ∀ i, lo ≤ i → i ≤ hi → step (st i i) = some (.inr (fin i)))
  (mono : ∀ x y, lo ≤ x → x ≤ y → y < hi → P y = true → P x = true) :
  ∃ k, lo ≤ k ∧ k ≤ hi ∧ (∀ x, lo ≤ x → x < k → P x = true) ∧ (∀ x, k ≤ x → x < hi → P x = false) ∧ AR step many (st lo hi) = some (fin k) := by
 have hm : 9223372036854775808 < many := by simp only [many]; omega
 rw [Ag]
 exact AUW st P fin lo hi h hN mono (hi - lo) lo hi many rfl (Nat.le_refl _) hlh (Nat.le_refl _) (by omega) (fun x a b => by omega) (fun x a b => by omega)
end Go.Pev.Pl
end
section
section
namespace Go.Pev.Pl
set_option linter.unusedSimpArgs false
structure UF (N : Nat) (s : List Int) (c : Int → Int) : Prop where
 len : s.length = N
 lo : ∀ k, k < N → 0 ≤ s.getD k 0 ∧ s.getD k 0 ≤ (k : Int)
 par : ∀ k, k < N → c (s.getD k 0) = c (k : Int)
 root : ∀ k, k < N → s.getD k 0 = (k : Int) → c (k : Int) = (k : Int)
 le : ∀ k, k < N → 0 ≤ c (k : Int) ∧ c (k : Int) ≤ (k : Int)
theorem UM {s : List Int} {k : Nat} (x : Int) (h : k < s.length) (j : Nat) : (s.set k x).getD j 0 = if j = k then x else s.getD j 0 := by
 simp only [List.getD_eq_getElem?_getD]
 by_cases hj : j = k
 ·subst hj
  rw [List.getElem?_set_self h, if_pos rfl]; rfl
 ·rw [List.getElem?_set_ne (Ne.symm hj), if_neg hj]
theorem UF.idem {N : Nat} {s : List Int} {c : Int → Int} (h : UF N s c) : ∀ (m k : Nat), k ≤ m → k < N → c (c (k : Int)) = c (k : Int) := by
 intro m
 induction m with
 | zero =>
  intro k hk hN
  have := h.le k hN
  have e : c (k : Int) = (k : Int) := by omega
  rw [e, e]
 | succ m ih =>
  intro k hk hN
  have h1 := h.lo k hN
  by_cases hr : s.getD k 0 = (k : Int)
  ·have e := h.root k hN hr
   rw [e, e]
  ·obtain ⟨j, hj⟩ := Int.eq_ofNat_of_zero_le h1.1
   have hp := h.par k hN
   rw [hj] at hp
   rw [← hp]
   exact ih j (by omega) (by omega)
theorem UF.top {N : Nat} {s : List Int} {c : Int → Int} (h : UF N s c) {k : Nat} (hk : k < N) : s.getD (c (k : Int)).toNat 0 = c (k : Int) := by
 have h1 := h.le k hk
 obtain ⟨j, hj⟩ := Int.eq_ofNat_of_zero_le h1.1
 have hi := h.idem k k (Nat.le_refl _) hk
 rw [hj] at hi ⊢
 have hjN : j < N := by omega
 have h2 := h.lo j hjN
 have hp := h.par j hjN
 obtain ⟨i, hi'⟩ := Int.eq_ofNat_of_zero_le h2.1
 rw [hi'] at hp
 have h3 := h.le i (by omega)
 show s.getD j 0 = _
 omega
theorem GJ {N : Nat} {c : Int → Int} (hN : N ≤ 64) : ∀ {s : List Int} (_ : UF N s c) {v : Nat} (_ : v < N), ∃ s', Ly (s, (v : Int), ()) = some (s', c (v : Int), ()) ∧ UF N s' c ∧ ∀ j, j < N → s.getD j 0 = c (j : Int) → s'.getD j 0 = c (j : Int) := by
 intro s hs v hv
 rw [ZW, NU]
 obtain ⟨r, e, h⟩ := AK8 (step := Hi)
  (fun st => ∃ (s' : List Int) (w : Nat), st = (s', (w : Int), ()) ∧ w < N ∧ UF N s' c ∧ c (w : Int) = c (v : Int) ∧ ∀ j, j < N → s.getD j 0 = c (j : Int) → s'.getD j 0 = c (j : Int))
  (fun r => ∃ s', r = .inl (s', c (v : Int), ()) ∧ UF N s' c ∧ ∀ j, j < N → s.getD j 0 = c (j : Int) → s'.getD j 0 = c (j : Int)) (fun st => st.2.1.toNat)
  (fun st hst => by
   obtain ⟨s', w, rfl, hw, hu, hc, hk⟩ := hst
   have hl := hu.len
   have h1 := hu.lo w hw
   rw [Hi]
   simp only [DH 0 (show w < s'.length by omega), HY, Av]
   by_cases hr : s'.getD w 0 = (w : Int)
   ·right
    rw [decide_eq_true hr]
    refine ⟨_, rfl, s', ?_, hu, hk⟩
    rw [← hc, hu.root w hw hr]
   ·left
    rw [decide_eq_false hr]
    obtain ⟨p, hp⟩ := Int.eq_ofNat_of_zero_le h1.1
    have hpN : p < N := by omega
    have h2 := hu.lo p hpN
    obtain ⟨q, hq⟩ := Int.eq_ofNat_of_zero_le h2.1
    have hqN : q < N := by omega
    simp only [Bool.not_false, hp, DH 0 (show p < s'.length by omega), HY, Is, hq]
    have hlen : (s'.set w (q : Int)).length = N := by rw [List.length_set]; exact hl
    have hset := fun j => UM (q : Int) (show w < s'.length by omega) j
    simp only [DH 0 (show w < (s'.set w (q : Int)).length by omega), hset, if_true]
    refine ⟨_, rfl, ⟨_, q, rfl, hqN, ?_, ?_, ?_⟩, ?_⟩
    ·refine ⟨hlen, fun k hk => ?_, fun k hk => ?_, fun k hk hkk => ?_, hu.le⟩
     ·rw [hset]
      by_cases e : k = w
      ·rw [if_pos e]; omega
      ·rw [if_neg e]; exact hu.lo k hk
     ·rw [hset]
      by_cases e : k = w
      ·subst e
       rw [if_pos rfl, ← hq, hu.par p hpN, ← hp, hu.par k hw]
      ·rw [if_neg e]; exact hu.par k hk
     ·rw [hset] at hkk
      by_cases e : k = w
      ·subst e; rw [if_pos rfl] at hkk; omega
      ·rw [if_neg e] at hkk; exact hu.root k hk hkk
    ·rw [← hc, ← hq, hu.par p hpN, ← hp, hu.par w hw]
    ·intro j hj hjc
     rw [hset]
     by_cases e : j = w
     ·subst e
      rw [if_pos rfl]
      have := hk j hj hjc
      have ht := hu.top hj
      rw [← this, hp, Int.toNat_natCast] at ht
      rw [← hq, ht, ← hp, this]
     ·rw [if_neg e]; exact hk j hj hjc
    ·show (q : Int).toNat < (w : Int).toNat
     omega)
  (s, (v : Int), ()) ⟨s, v, rfl, hv, hs, rfl, fun _ _ h => h⟩ (by simp only [many]; omega)
 obtain ⟨s', rfl, h2, h3⟩ := h
 rw [e]
 exact ⟨s', rfl, h2, h3⟩
theorem ADC (a b : Int) : DT a b = min a b := by unfold DT; split <;> omega
theorem ADD (a b : Int) : imax a b = max a b := by unfold imax; split <;> omega
theorem Cq {N i x : Nat} (h : (List.range N)[i]? = some x) : x = i := by
 rw [List.getElem?_eq_some_iff] at h
 obtain ⟨h1, h2⟩ := h
 simpa using h2.symm
def Zp (c : Int → Int) (u v : Int) : Int → Int := fun x => if c x = max (c u) (c v) then min (c u) (c v) else c x
theorem ZX {N : Nat} (hN : N ≤ 64) {c : Int → Int} {s : List Int} (hs : UF N s c) {u v : Nat} (hu : u < N) (hv : v < N) : ∃ s' b, ZY (s, (u : Int), (v : Int), ()) = some (s', b, ()) ∧ UF N s' (Zp c u v) := by
 obtain ⟨s1, e1, g1, _⟩ := GJ hN hs hu
 obtain ⟨s2, e2, g2, _⟩ := GJ hN g1 hv
 rw [UJ, NV]
 simp only [e1, e2, ADC, ADD]
 have lu := g2.le u hu
 have lv := g2.le v hv
 have iu := g2.idem u u (Nat.le_refl _) hu
 have iv := g2.idem v v (Nat.le_refl _) hv
 obtain ⟨M, hM⟩ := Int.eq_ofNat_of_zero_le (show 0 ≤ max (c (u : Int)) (c (v : Int)) by omega)
 obtain ⟨m, hm⟩ := Int.eq_ofNat_of_zero_le (show 0 ≤ min (c (u : Int)) (c (v : Int)) by omega)
 have hMN : M < N := by omega
 have hmN : m < N := by omega
 have hl := g2.len
 have cM : c (M : Int) = (M : Int) := by
  rw [← hM]
  rcases Int.le_total (c (u : Int)) (c (v : Int)) with h | h
  ·rw [Int.max_eq_right h]; exact iv
  ·rw [Int.max_eq_left h]; exact iu
 have cm : c (m : Int) = (m : Int) := by
  rw [← hm]
  rcases Int.le_total (c (u : Int)) (c (v : Int)) with h | h
  ·rw [Int.min_eq_left h]; exact iu
  ·rw [Int.min_eq_right h]; exact iv
 rw [hM, hm]
 simp only [DH 0 (show M < s2.length by omega), Is]
 refine ⟨_, _, rfl, ?_⟩
 have hset := fun j => UM (m : Int) (show M < s2.length by omega) j
 have hre : ∀ x, Zp c u v x = if c x = (M : Int) then (m : Int) else c x := by
  intro x; unfold Zp; rw [hM, hm]
 refine ⟨by rw [List.length_set]; exact hl, fun k hk => ?_, fun k hk => ?_, fun k hk hkk => ?_, fun k hk => ?_⟩
 ·rw [hset]
  by_cases e : k = M
  ·rw [if_pos e]; omega
  ·rw [if_neg e]; exact g2.lo k hk
 ·rw [hset, hre, hre]
  by_cases e : k = M
  ·subst e
   rw [if_pos rfl, if_pos cM, cm]
   split <;> rfl
  ·rw [if_neg e, g2.par k hk]
 ·rw [hset] at hkk
  rw [hre]
  by_cases e : k = M
  ·subst e
   rw [if_pos rfl] at hkk
   rw [if_pos cM]; exact hkk
  ·rw [if_neg e] at hkk
   have hr := g2.root k hk hkk
   rw [hr, if_neg (by omega)]
 ·rw [hre]
  have := g2.le k hk
  split <;> omega
theorem VF (N : Nat) (h : N ≤ 64) : Pf ((N : Int), ()) = some ((List.range N).map fun (k : Nat) => (k : Int), ()) := by
 rw [Zl, Na]
 have f1 : Hv (N : Int) = true := (Hu _).2 (by omega)
 rw [f1, Cc, decide_eq_true (Nat.le_refl _)]
 simp only [Bool.and_self]
 have hz : KE (AG (N : Int)) (0 : Int) = List.replicate N 0 := by simp [KE, AG]
 rw [hz]
 have e := CQ (step := EI) (fun i (a : List Int) => (a, (N : Int), (i : Int), ())) (List.range N) (fun (k : Nat) a => .inl (a.set k (k : Int))) (fun a => .inl (a, ())) (fun i a => a.length = N) (by simp; omega)
  (fun i x a hi hx ha => by
   refine ⟨fun m' h' => ?_, fun r h' => by cases h'⟩
   cases h'
   have := Cq hx
   subst this
   rw [List.length_range] at hi
   rw [EI, AL, decide_eq_true hi]
   simp only [DH 0 (show x < a.length by omega), Is]
   rw [AM (by omega)]
   exact ⟨rfl, by rw [List.length_set]; exact ha⟩)
  (fun a _ => by rw [EI, List.length_range, AL, decide_eq_false (by omega)]) (List.replicate N 0) (by simp)
 have e' : AR EI many (List.replicate N 0, (N : Int), (0 : Int), ()) = _ := e
 rw [show AQ (List.replicate N (0 : Int)) = (N : Int) by simp [AQ]]
 rw [e', BB]
 have key : ∀ M, M ≤ N → (List.range M).foldl (fun (a : List Int) (k : Nat) => a.set k (k : Int)) (List.replicate N 0) = ((List.range M).map fun (k : Nat) => (k : Int)) ++ List.replicate (N - M) 0 := by
  intro M
  induction M with
  | zero => intro _; simp
  | succ M ih =>
   intro hM
   rw [List.range_succ, List.foldl_append, ih (by omega)]
   simp only [List.foldl_cons, List.foldl_nil, List.map_append, List.map_cons, List.map_nil]
   rw [List.set_append_right _ _ (by simp)]
   obtain ⟨d, hd⟩ : ∃ d, N - M = d + 1 := ⟨N - M - 1, by omega⟩
   rw [hd, show N - (M + 1) = d by omega]
   simp [List.replicate_succ]
 rw [key N (Nat.le_refl _)]
 simp
theorem AID (N : Nat) : UF N ((List.range N).map fun (k : Nat) => (k : Int)) (fun x => x) := by
 have hg : ∀ k, k < N → ((List.range N).map fun (k : Nat) => (k : Int)).getD k 0 = (k : Int) := by
  intro k hk
  simp [List.getD_eq_getElem?_getD, hk]
 exact ⟨by simp, fun k hk => by rw [hg k hk]; omega, fun k hk => hg k hk, fun k hk _ => rfl, fun k hk => by omega⟩
def KP (N : Nat) (c : Int → Int) (l : List Edge) : Prop := ∀ a b, In (N : Int) a → In (N : Int) b → (c a = c b ↔ Con l a b)
theorem KP.snoc {N : Nat} {c : Int → Int} {l : List Edge} {e : Edge} (h : KP N c l) (h1 : In (N : Int) e.1) (h2 : In (N : Int) e.2.1) : KP N (Zp c e.1 e.2.1) (l ++ [e]) := by
 intro a b ia ib
 rw [Con.snoc, ← h a b ia ib, ← h a _ ia h1, ← h _ b h2 ib, ← h a _ ia h2, ← h _ b h1 ib]
 unfold Zp
 generalize c a = x
 generalize c b = y
 generalize c e.1 = u
 generalize c e.2.1 = v
 split <;> split <;> omega
theorem ADk {N : Nat} (h1 : 1 ≤ N) (hN : N ≤ 64) (l : List Edge) (hs : l.length < 1073741824) (ha : ∀ e ∈ l, In (N : Int) e.1 ∧ In (N : Int) e.2.1) :
  ∃ s bs c, Hx (l, (List.range N).map (fun (k : Nat) => (k : Int)), ()) = some (s, bs, ()) ∧ UF N s c ∧ KP N c l := by
 rw [KD, GU]
 have key : ∀ (m i n : Nat) (s : List Int) (bs : List Bool) (c : Int → Int), l.length - i = m → i ≤ l.length → m < n → bs.length = i → UF N s c → KP N c (l.take i) →
   ∃ s' bs' c', AU BW n (s, bs, l, AQ l, (i : Int), ()) = some (.inl (s', bs', ())) ∧ UF N s' c' ∧ KP N c' l := by
  intro m
  induction m with
  | zero =>
   intro i n s bs c hm hi hn hb hu ht
   obtain ⟨n, rfl⟩ : ∃ k, n = k + 1 := ⟨n - 1, by omega⟩
   have e : i = l.length := by omega
   subst e
   rw [AU, BW, AP, AL, decide_eq_false (by omega)]
   rw [List.take_length] at ht
   exact ⟨s, bs, c, rfl, hu, ht⟩
  | succ m ih =>
   intro i n s bs c hm hi hn hb hu ht
   obtain ⟨n, rfl⟩ : ∃ k, n = k + 1 := ⟨n - 1, by omega⟩
   have hi' : i < l.length := by omega
   have hx : l[i]? = some l[i] := by simp [hi']
   obtain ⟨i1, i2⟩ := ha l[i] (List.getElem_mem hi')
   obtain ⟨_, _, a1, a2⟩ := i1
   obtain ⟨_, _, b1, b2⟩ := i2
   obtain ⟨u, hu'⟩ := Int.eq_ofNat_of_zero_le a1
   obtain ⟨v, hv'⟩ := Int.eq_ofNat_of_zero_le b1
   obtain ⟨s', b, e, g⟩ := ZX hN hu (u := u) (v := v) (by omega) (by omega)
   rw [AU, BW, AP, AL, decide_eq_true hi']
   simp only [AY hx, hu', hv', e, AP]
   rw [B6 (by rw [hb]; simp; omega), AM (by omega)]
   refine ih (i + 1) n s' _ _ (by omega) (by omega) (by omega) (by rw [HZ, List.length_append, hb]; rfl) g ?_
   rw [List.take_add_one, hx]
   have := ht.snoc (e := l[i]) (ha l[i] (List.getElem_mem hi')).1 (ha l[i] (List.getElem_mem hi')).2
   rw [hu', hv'] at this
   exact this
 obtain ⟨s, bs, c, e, hu, ht⟩ := key l.length 0 many _ [] _ rfl (Nat.zero_le _) (by simp only [many]; omega) rfl (AID N) (by
  intro a b _ _
  rw [List.take_zero]
  exact ⟨fun h => by have h : a = b := h; rw [h]; exact .refl _, fun h => h.nil⟩)
 have e' : AR BW many ((List.range N).map (fun (k : Nat) => (k : Int)), [], l, AQ l, (0 : Int), ()) = _ := (Ag _ _ _).trans e
 rw [e']
 exact ⟨s, bs, c, rfl, hu, ht⟩
theorem UT (n : Int) (l : List Edge) (hn : Sz n) (hs : l.length < 1073741824) (ha : ∀ e ∈ l, In n e.1 ∧ In n e.2.1) : Pd (n, l, ()) = some (0, ()) := by
 rw [Zg, NZ]
 obtain ⟨h1, h2⟩ := hn
 rw [Aj, decide_eq_false (by omega), Aj, decide_eq_false (by omega)]
 have e := OG (step := EH) (fun i => (n, l, AQ l, (i : Int), ())) l (fun _ => false) (fun _ => .inl (10, ())) (.inr (.inl ())) (by omega)
  (fun i x hi hx => by
   obtain ⟨⟨_, _, a1, a2⟩, ⟨_, _, b1, b2⟩⟩ := ha x (List.mem_of_getElem? hx)
   rw [EH, AP, AL, decide_eq_true hi]
   simp only [AY hx, ADC, ADD]
   rw [Aj, decide_eq_false (by omega), A2, decide_eq_false (by omega), AM (by omega)]
   rfl)
  (by rw [EH, AP, AL, decide_eq_false (by omega)])
 have e' : AR EH many (n, l, AQ l, (0 : Int), ()) = _ := e
 rw [e']
 simp
theorem AB7 (n : Int) (l : List Edge) (hn : Sz n) (hs : l.length < 1073741824) (ha : ∀ e ∈ l, In n e.1 ∧ In n e.2.1) : ∃ out, Jg (n, l, ()) = some (out, 0, ()) ∧ PC n l out := by
 have hn' := hn
 obtain ⟨h1, h2⟩ := hn
 obtain ⟨N, rfl⟩ := Int.eq_ofNat_of_zero_le (show 0 ≤ n by omega)
 rw [Q1, IT]
 simp only [UT _ l hn' hs ha, Av]
 obtain ⟨s, bs, c, e, hu, ht⟩ := ADk (N := N) (by omega) (by omega) l hs ha
 have ej : Pa ((List.range N).map (fun (k : Nat) => (k : Int)), l, ()) = some (s, bs, ()) := by
  rw [PZ, Jc]; simp only [e]
 simp only [decide_true, Bool.not_true, VF N (by omega), ej]
 have key : ∀ (m i k : Nat) (s : List Int), N - i = m → i ≤ N → m < k → UF N s c → (∀ j, j < i → s.getD j 0 = c (j : Int)) →
   ∃ s', AU Ck k (s, (N : Int), (i : Int), ()) = some (.inl (s', ())) ∧ UF N s' c ∧ ∀ j, j < N → s'.getD j 0 = c (j : Int) := by
  intro m
  induction m with
  | zero =>
   intro i k s hm hi hk hu hj
   obtain ⟨k, rfl⟩ : ∃ q, k = q + 1 := ⟨k - 1, by omega⟩
   have e : i = N := by omega
   subst e
   rw [AU, Ck, AL, decide_eq_false (by omega)]
   exact ⟨s, rfl, hu, hj⟩
  | succ m ih =>
   intro i k s hm hi hk hu hj
   obtain ⟨k, rfl⟩ : ∃ q, k = q + 1 := ⟨k - 1, by omega⟩
   have hi' : i < N := by omega
   obtain ⟨s', e, g, hkeep⟩ := GJ (by omega) hu hi'
   have hl := g.len
   rw [AU, Ck, AL, decide_eq_true hi']
   simp only [e, DH 0 (show i < s'.length by omega), Is]
   rw [AM (by omega)]
   have hset := fun j => UM (c (i : Int)) (show i < s'.length by omega) j
   have ci := g.idem i i (Nat.le_refl _) hi'
   refine ih (i + 1) k _ (by omega) (by omega) (by omega) ⟨by rw [List.length_set]; exact hl, fun q hq => ?_, fun q hq => ?_, fun q hq hqq => ?_, g.le⟩ fun j hj' => ?_
   ·rw [hset]
    by_cases e : q = i
    ·subst e; rw [if_pos rfl]; exact g.le q hq
    ·rw [if_neg e]; exact g.lo q hq
   ·rw [hset]
    by_cases e : q = i
    ·subst e; rw [if_pos rfl]; exact ci
    ·rw [if_neg e]; exact g.par q hq
   ·rw [hset] at hqq
    by_cases e : q = i
    ·subst e; rw [if_pos rfl] at hqq; exact hqq
    ·rw [if_neg e] at hqq; exact g.root q hq hqq
   ·rw [hset]
    by_cases e : j = i
    ·subst e; rw [if_pos rfl]
    ·rw [if_neg e]; exact hkeep j (by omega) (hj j (by omega))
 obtain ⟨o, e, g, ho⟩ := key N 0 many s rfl (Nat.zero_le _) (by simp only [many]; omega) hu (fun j hj => by omega)
 have e' : AR Ck many (s, (N : Int), (0 : Int), ()) = _ := (Ag _ _ _).trans e
 rw [AP, hu.len, e']
 refine ⟨o, rfl, ?_⟩
 have hcl : ∀ a, In (N : Int) a → cl o a = c a ∧ (0 ≤ c a ∧ c a ≤ a) ∧ c (c a) = c a := by
  rintro a ⟨_, _, a1, a2⟩
  obtain ⟨k, rfl⟩ := Int.eq_ofNat_of_zero_le a1
  refine ⟨?_, g.le k (by omega), g.idem k k (Nat.le_refl _) (by omega)⟩
  unfold cl
  rw [Int.toNat_natCast]
  exact ho k (by omega)
 have isin : ∀ a, In (N : Int) a → In (N : Int) (c a) := by
  intro a ia
  obtain ⟨_, h, _⟩ := hcl a ia
  obtain ⟨q1, q2, a1, a2⟩ := ia
  exact ⟨q1, q2, by omega, by omega⟩
 refine ⟨by rw [g.len], fun a b ia ib => ?_, fun a ia => ?_, fun a ia => ?_, fun a b ia ib hc => ?_⟩
 ·rw [(hcl a ia).1, (hcl b ib).1]; exact ht a b ia ib
 ·rw [(hcl a ia).1]; exact isin a ia
 ·rw [(hcl a ia).1]
  exact (ht a (c a) ia (isin a ia)).1 (hcl a ia).2.2.symm
 ·rw [(hcl a ia).1, (ht a b ia ib).2 hc]
  exact (hcl b ib).2.1.2
end Go.Pev.Pl
end
section
namespace Go.Pev.Pl
set_option linter.unusedSimpArgs false
def sh (n : Int) : Prop := 0 ≤ n ∧ n ≤ 65535
instance (n : Int) : Decidable (sh n) := inferInstanceAs (Decidable (_ ∧ _))
def tw (n : Int) : List Int := [n / 256, n % 256]
theorem AQW {α β : Type} (g : β → α) : ∀ (xs : List β) (a : List α), xs.foldl (fun a x => a ++ [g x]) a = a ++ xs.map g := by
 intro xs
 induction xs with
 | nil => intro a; simp
 | cons x xs ih => intro a; rw [List.foldl_cons, ih]; simp
end Go.Pev.Pl
end
section
namespace Go.Pev.Pl
set_option linter.unusedSimpArgs false
abbrev Res := Int × Int × List Int × Unit
def val (r : Res) : Prop := (0 ≤ r.1 ∧ r.1 ≤ 255) ∧ sh r.2.1 ∧ sh (r.2.2.1.length : Int) ∧ ∀ x ∈ r.2.2.1, sh x
instance (r : Res) : Decidable (val r) := inferInstanceAs (Decidable (_ ∧ _ ∧ _ ∧ _))
def enc (r : Res) : List Int := r.1 :: (tw r.2.1 ++ (tw (r.2.2.1.length : Int) ++ r.2.2.1.flatMap tw))
end Go.Pev.Pl
end
section
namespace Go.Pev.Pl
set_option linter.unusedSimpArgs false
set_option maxRecDepth 100000
theorem Hr (a : Int) : ieq a a = true := by rw [HS]; simp
end Go.Pev.Pl
end
section
namespace Go.Pev.Pl
open Go.RowKit Tok
section
variable {n : Int} {rings : List (List Int)}
theorem AHL {l : List Edge} {out : List Int} (h : FC n rings l) (hc : PC n l out) {A : List Int} {u : Int} (hA : A ∈ rings) (iu : In n u) (hu : u ∈ A) : hd A = cl out u := by
 have gA := h.fr.rg A hA
 have ih := Oi gA
 have hh := ADI gA.2.1
 have h1 : Con l u (hd A) := (h.sam u (hd A) iu ih).1 ⟨A, hA, hu, hh⟩
 have h2 := hc.least u (hd A) iu ih h1
 have h3 := hc.isin u iu
 obtain ⟨K, hK, k1, k2⟩ := (h.sam u _ iu h3).2 (hc.con u iu)
 have := h.fr.one hA hK iu.2.2.2 hu k1
 subst this
 have h4 := (EP gA.2.1).2 _ k2
 rw [gA.2.2.1] at h4
 have : hd A = A.headD 0 := rfl
 omega
end
end Go.Pev.Pl
end
section
namespace Go.Pev.Pl
set_option linter.unusedSimpArgs false
set_option maxRecDepth 100000
def FF (n : Nat) : Int := ((@LO idI ((n : Int), ())).getD (0, ())).1
theorem AXi : ((List.range 65).all fun k => decide (@LO idI ((k : Int), ()) = some (FF k, ()))) = true := by kernel_rfl
theorem AXQ : ((List.range 65).all fun k => decide (@Yi idI ((k : Int), ()) = some (FF k, ()))) = true := by kernel_rfl
theorem AOL (n : Nat) (h : n ≤ 64) : LO ((n : Int), ()) = some (FF n, ()) := by
 rw [show LO ((n : Int), ()) = @LO idI ((n : Int), ()) from congrArg (fun i => @LO i ((n : Int), ())) WY]
 exact of_decide_eq_true (List.all_eq_true.1 AXi n (by simp; omega))
theorem Ns (n : Nat) (h : n ≤ 64) : Yi ((n : Int), ()) = some (FF n, ()) := by
 rw [show Yi ((n : Int), ()) = @Yi idI ((n : Int), ()) from congrArg (fun i => @Yi i ((n : Int), ())) WY]
 exact of_decide_eq_true (List.all_eq_true.1 AXQ n (by simp; omega))
def AUM (a b : Int) : Int := if a < b then -1 else if b < a then 1 else 0
theorem OW (a b : Int) : E9 (a, b, ()) = some (AUM a b, ()) := by
 rw [KJ, Ga]
 simp only [ACn, WL, Hr, Bool.not_true]
 unfold AUM
 rw [Aj, Aj]
 by_cases h : a < b
 ·rw [decide_eq_true h, if_pos h]
 ·rw [decide_eq_false h, if_neg h]
  by_cases h' : b < a
  ·rw [decide_eq_true h', if_pos h']
  ·rw [decide_eq_false h', if_neg h']
theorem AVd (a b : Int) : orI ([a, b], ()) = some (if a = 0 then b else a, ()) := by
 rw [AS7, AM8]
 have e := OG (step := MD) (fun i => (0, [a, b], AQ [a, b], (i : Int), ())) [a, b] (fun x => !decide (x = 0)) (fun i => .inl ([a, b].getD i 0, ())) (.inr (.inl (0, ()))) (by simp)
  (fun i x hi hx => by
   rw [MD, AP, AL, decide_eq_true hi]
   simp only [AY hx, Av]
   have hi2 : i < 2 := hi
   rw [AM (by omega)]
   have hg : [a, b].getD i 0 = x := by rw [List.getD_eq_getElem?_getD, hx]; rfl
   rw [hg]
   by_cases h : x = 0
   ·simp [h]
   ·simp [h])
  (by rw [MD, AP, AL, decide_eq_false (by omega)])
 have e' : AR MD many (0, [a, b], AQ [a, b], (0 : Int), ()) = _ := e
 rw [e']
 by_cases h : a = 0
 ·by_cases h' : b = 0
  ·simp [h, h']
  ·simp [h, h', List.findIdx_cons]
 ·simp [h, List.findIdx_cons]
theorem AC0 (p x : Tie) : ∃ y, Hp (p, x, ()) = some (y, ()) ∧ ile 0 y = !decide (ahead p x) := by
 rw [RL, Ii]
 simp only [OW, AVd]
 refine ⟨_, rfl, ?_⟩
 rw [A2]
 by_cases h : ahead p x
 ·rw [decide_eq_true h]
  unfold ahead at h
  unfold AUM
  rw [decide_eq_false]; · rfl
  split <;> split <;> (try split) <;> omega
 ·rw [decide_eq_false h]
  unfold ahead at h
  unfold AUM
  rw [decide_eq_true]; · rfl
  split <;> split <;> (try split) <;> omega
def JJ (N : Nat) (ts : List Tie) (i : Nat) : Prop :=
 0 ≤ (ts.getD i zT).1 ∧ (ts.getD i zT).1 < (ts.getD i zT).2.1 ∧ (ts.getD i zT).2.1 < (N : Int) ∧ 0 ≤ (ts.getD i zT).2.2.1 ∧ (ts.getD i zT).2.2.1 ≤ FF N ∧ (i = 0 ∨ ahead (ts.getD (i - 1) zT) (ts.getD i zT))
instance (N : Nat) (ts : List Tie) (i : Nat) : Decidable (JJ N ts i) := inferInstanceAs (Decidable (_ ∧ _ ∧ _ ∧ _ ∧ _ ∧ _))
def trs (ts : List Tie) (k : Nat) : List Edge := (List.range k).foldl (fun a i => if (ts.getD i zT).2.2.2.1 = true then a ++ [ed (ts.getD i zT)] else a) []
theorem AEe {α β ρ : Type} (P : β → Prop) [DecidablePred P] (g : β → α → α) (fin : α → ρ) (rt : ρ) : ∀ (xs : List β) (a : α), walk (fun x a => if P x then .inl (g x a) else .inr rt) fin xs a = if ∀ x ∈ xs, P x then fin (xs.foldl (fun a x => g x a) a) else rt := by
 intro xs
 induction xs with
 | nil => intro a; simp [walk]
 | cons x xs ih =>
  intro a
  rw [walk]
  by_cases h : P x
  ·rw [if_pos h]
   simp only []
   rw [ih]
   simp [h]
  ·rw [if_neg h]
   simp [h]
theorem TK (ts : List Tie) (k : Nat) : trs ts (k + 1) = if (ts.getD k zT).2.2.2.1 = true then trs ts k ++ [ed (ts.getD k zT)] else trs ts k := by
 unfold trs
 rw [List.range_succ, List.foldl_append]
 rfl
theorem AAw (ts : List Tie) : ∀ k, (trs ts k).length ≤ k := by
 intro k
 induction k with
 | zero => exact Nat.le_refl _
 | succ k ih =>
  rw [TK]
  split
  ·rw [List.length_append]; simp; omega
  ·omega
theorem AUo (ts : List Tie) (e : Edge) : ∀ k, e ∈ trs ts k → ∃ i, i < k ∧ e = ed (ts.getD i zT) := by
 intro k
 induction k with
 | zero => intro h; simp [trs] at h
 | succ k ih =>
  intro h
  rw [TK] at h
  split at h
  ·rcases List.mem_append.1 h with h | h
   ·obtain ⟨i, h1, h2⟩ := ih h; exact ⟨i, by omega, h2⟩
   ·simp only [List.mem_singleton] at h; exact ⟨k, by omega, h⟩
  ·obtain ⟨i, h1, h2⟩ := ih h; exact ⟨i, by omega, h2⟩
def oks (N : Nat) (ts : List Tie) : Prop := ∀ i ∈ List.range ts.length, JJ N ts i
instance (N : Nat) (ts : List Tie) : Decidable (oks N ts) := inferInstanceAs (Decidable (∀ i ∈ List.range ts.length, JJ N ts i))
theorem AG2 (N : Nat) (hN : N ≤ 64) (ts : List Tie) (hs : ts.length ≤ 400) :
  AR C7 many ((N : Int), ts, FF N, ts, AQ ts, (0 : Int), ()) = some (if oks N ts then .inr (.inl ((N : Int), ts, ())) else .inl (false, ())) := by
 have e := CQ (step := C7) (fun i (_ : Unit) => ((N : Int), ts, FF N, ts, AQ ts, (i : Int), ())) (List.range ts.length) (fun i a => if JJ N ts i then .inl a else .inr (.inl (false, ()))) (fun _ => .inr (.inl ((N : Int), ts, ()))) (fun _ _ => True) (by simp; omega)
  (fun i x a hi hx _ => by
   have := Cq hx
   subst this
   rw [List.length_range] at hi
   have step : C7 ((N : Int), ts, FF N, ts, AQ ts, (x : Int), ()) = if JJ N ts x then some (.inl ((N : Int), ts, FF N, ts, AQ ts, ((x + 1 : Nat) : Int), ())) else some (.inr (.inl (false, ()))) := by
    rw [C7, AP, AL, decide_eq_true hi]
    simp only [DH zT hi]
    obtain ⟨t, ht⟩ : ∃ t, ts.getD x zT = t := ⟨_, rfl⟩
    have hk : JJ N ts x ↔ (0 ≤ t.1 ∧ t.1 < t.2.1 ∧ t.2.1 < (N : Int) ∧ 0 ≤ t.2.2.1 ∧ t.2.2.1 ≤ FF N ∧ (x = 0 ∨ ahead (ts.getD (x - 1) zT) t)) := by unfold JJ; rw [ht]
    rw [ht]
    rw [Aj, A2, A2, Aj, Aj]
    by_cases h1 : t.1 < 0
    ·rw [decide_eq_true h1, if_neg (fun h => by obtain ⟨q1, q2, q3, q4, q5, _⟩ := hk.1 h; omega)]
    rw [decide_eq_false h1]
    by_cases h2 : t.2.1 ≤ t.1
    ·rw [decide_eq_true h2, if_neg (fun h => by obtain ⟨q1, q2, q3, q4, q5, _⟩ := hk.1 h; omega)]
    rw [decide_eq_false h2]
    by_cases h3 : (N : Int) ≤ t.2.1
    ·rw [decide_eq_true h3, if_neg (fun h => by obtain ⟨q1, q2, q3, q4, q5, _⟩ := hk.1 h; omega)]
    rw [decide_eq_false h3]
    by_cases h4 : t.2.2.1 < 0
    ·rw [decide_eq_true h4, if_neg (fun h => by obtain ⟨q1, q2, q3, q4, q5, _⟩ := hk.1 h; omega)]
    rw [decide_eq_false h4]
    by_cases h5 : FF N < t.2.2.1
    ·rw [decide_eq_true h5, if_neg (fun h => by obtain ⟨q1, q2, q3, q4, q5, _⟩ := hk.1 h; omega)]
    rw [decide_eq_false h5]
    simp only []
    rw [AM (by omega), Aj]
    by_cases h6 : x = 0
    ·subst h6
     rw [decide_eq_false (by omega), if_pos (hk.2 ⟨by omega, by omega, by omega, by omega, by omega, .inl rfl⟩)]
    ·rw [decide_eq_true (by omega), Ah (by omega), show ((x : Int) - 1) = ((x - 1 : Nat) : Int) by omega]
     simp only [DH zT (show x - 1 < ts.length by omega)]
     obtain ⟨y, ey, hy⟩ := AC0 (ts.getD (x - 1) zT) t
     have ey' : Hp (((ts.getD (x - 1) zT).1, ((ts.getD (x - 1) zT).2.1, ((ts.getD (x - 1) zT).2.2.1, ((ts.getD (x - 1) zT).2.2.2.1, ())))), (t.1, (t.2.1, (t.2.2.1, (t.2.2.2.1, ())))), ()) = some (y, ()) := ey
     simp only [ey', hy]
     by_cases h7 : ahead (ts.getD (x - 1) zT) t
     ·rw [decide_eq_true h7, if_pos (hk.2 ⟨by omega, by omega, by omega, by omega, by omega, .inr h7⟩)]
      rfl
     ·rw [decide_eq_false h7, if_neg (fun h => by rcases (hk.1 h).2.2.2.2.2 with h | h; exact h6 h; exact h7 h)]
      rfl
   by_cases h : JJ N ts x
   ·rw [if_pos h] at step ⊢
    refine ⟨fun m' h' => ?_, fun r h' => (by cases h')⟩
    cases h'
    exact ⟨step, trivial⟩
   ·rw [if_neg h] at step ⊢
    refine ⟨fun m' h' => (by cases h'), fun r h' => ?_⟩
    cases h'
    exact step)
  (fun a _ => by rw [C7, List.length_range, AP, AL, decide_eq_false (by omega)]) () trivial
 have e' : AR C7 many ((N : Int), ts, FF N, ts, AQ ts, (0 : Int), ()) = _ := e
 rw [e', AEe (JJ N ts) (fun _ a => a)]
 rfl
theorem Nd (N : Nat) (hN : N ≤ 64) (ts : List Tie) (hs : ts.length ≤ 400) :
  AR CF many ((N : Int), ts, [], (0 : Int), ()) = some (if oks N ts then .inr (.inl ((N : Int), ts, trs ts ts.length, ())) else .inl (false, ())) := by
 have e := CQ (step := CF) (fun i (a : List Edge) => ((N : Int), ts, a, (i : Int), ())) (List.range ts.length) (fun i a => if JJ N ts i then .inl (if (ts.getD i zT).2.2.2.1 = true then a ++ [ed (ts.getD i zT)] else a) else .inr (.inl (false, ()))) (fun a => .inr (.inl ((N : Int), ts, a, ()))) (fun i a => a.length ≤ i) (by simp; omega)
  (fun i x a hi hx ha => by
   have := Cq hx
   subst this
   rw [List.length_range] at hi
   have step : CF ((N : Int), ts, a, (x : Int), ()) = if JJ N ts x then some (.inl ((N : Int), ts, if (ts.getD x zT).2.2.2.1 = true then a ++ [ed (ts.getD x zT)] else a, ((x + 1 : Nat) : Int), ())) else some (.inr (.inl (false, ()))) := by
    rw [CF, AP, AL, decide_eq_true hi]
    simp only [DH zT hi, AOL N hN]
    obtain ⟨t, ht⟩ : ∃ t, ts.getD x zT = t := ⟨_, rfl⟩
    have hk : JJ N ts x ↔ (0 ≤ t.1 ∧ t.1 < t.2.1 ∧ t.2.1 < (N : Int) ∧ 0 ≤ t.2.2.1 ∧ t.2.2.1 ≤ FF N ∧ (x = 0 ∨ ahead (ts.getD (x - 1) zT) t)) := by unfold JJ; rw [ht]
    rw [ht]
    rw [Aj, A2, A2, Aj, Aj]
    by_cases h1 : t.1 < 0
    ·rw [decide_eq_true h1, if_neg (fun h => by obtain ⟨q1, q2, q3, q4, q5, _⟩ := hk.1 h; omega)]
    rw [decide_eq_false h1]
    by_cases h2 : t.2.1 ≤ t.1
    ·rw [decide_eq_true h2, if_neg (fun h => by obtain ⟨q1, q2, q3, q4, q5, _⟩ := hk.1 h; omega)]
    rw [decide_eq_false h2]
    by_cases h3 : (N : Int) ≤ t.2.1
    ·rw [decide_eq_true h3, if_neg (fun h => by obtain ⟨q1, q2, q3, q4, q5, _⟩ := hk.1 h; omega)]
    rw [decide_eq_false h3]
    by_cases h4 : t.2.2.1 < 0
    ·rw [decide_eq_true h4, if_neg (fun h => by obtain ⟨q1, q2, q3, q4, q5, _⟩ := hk.1 h; omega)]
    rw [decide_eq_false h4]
    by_cases h5 : FF N < t.2.2.1
    ·rw [decide_eq_true h5, if_neg (fun h => by obtain ⟨q1, q2, q3, q4, q5, _⟩ := hk.1 h; omega)]
    rw [decide_eq_false h5]
    simp only [AP]
    have hfit : fits ((a.length : Int) + (([(t.1, t.2.1, ())] : List Edge).length : Int)) = true := B6 (by simp; omega)
    rw [AM (by omega), Aj]
    by_cases h6 : x = 0
    ·subst h6
     rw [decide_eq_false (by omega), if_pos (hk.2 ⟨by omega, by omega, by omega, by omega, by omega, .inl rfl⟩)]
     cases ht4 : t.2.2.2.1
     ·simp
     ·simp only [hfit]
      simp [ed, BX]
    ·rw [decide_eq_true (by omega), Ah (by omega), show ((x : Int) - 1) = ((x - 1 : Nat) : Int) by omega]
     simp only [DH zT (show x - 1 < ts.length by omega), Av]
     generalize ts.getD (x - 1) zT = p at hk ⊢
     rw [Aj, A2]
     by_cases h7 : t.1 < p.1
     ·rw [decide_eq_true h7, if_neg (fun h => by rcases (hk.1 h).2.2.2.2.2 with h | h | h <;> omega)]
     rw [decide_eq_false h7]
     by_cases h8 : p.1 = t.1
     ·rw [decide_eq_true h8]
      by_cases h9 : t.2.1 ≤ p.2.1
      ·rw [decide_eq_true h9, if_neg (fun h => by rcases (hk.1 h).2.2.2.2.2 with h | h | h <;> omega)]
      rw [decide_eq_false h9, if_pos (hk.2 ⟨by omega, by omega, by omega, by omega, by omega, .inr (.inr ⟨h8, by omega⟩)⟩)]
      cases ht4 : t.2.2.2.1
      ·simp
      ·simp only [hfit]
       simp [ed, BX]
     ·rw [decide_eq_false h8, if_pos (hk.2 ⟨by omega, by omega, by omega, by omega, by omega, .inr (.inl (by omega))⟩)]
      cases ht4 : t.2.2.2.1
      ·simp
      ·simp only [hfit]
       simp [ed, BX]
   by_cases h : JJ N ts x
   ·rw [if_pos h] at step ⊢
    refine ⟨fun m' h' => ?_, fun r h' => (by cases h')⟩
    cases h'
    refine ⟨step, ?_⟩
    split
    ·rw [List.length_append]; simp; omega
    ·omega
   ·rw [if_neg h] at step ⊢
    refine ⟨fun m' h' => (by cases h'), fun r h' => ?_⟩
    cases h'
    exact step)
  (fun a _ => by rw [CF, List.length_range, AP, AL, decide_eq_false (by omega)]) [] (Nat.le_refl _)
 have e' : AR CF many ((N : Int), ts, [], (0 : Int), ()) = _ := e
 rw [e', AEe (JJ N ts) (fun i a => if (ts.getD i zT).2.2.2.1 = true then a ++ [ed (ts.getD i zT)] else a)]
 rfl
end Go.Pev.Pl
end
end
section
section
namespace Go.Pev.Pl
set_option linter.unusedSimpArgs false
set_option maxRecDepth 100000
theorem ANE {N : Nat} {ts : List Tie} (hN : N ≤ 64) {i : Nat} (h : JJ N ts i) : In (N : Int) (ed (ts.getD i zT)).1 ∧ In (N : Int) (ed (ts.getD i zT)).2.1 := by
 obtain ⟨q1, q2, q3, _⟩ := h
 exact ⟨⟨by omega, by omega, q1, by show (ts.getD i zT).1 < _; omega⟩, ⟨by omega, by omega, by show 0 ≤ (ts.getD i zT).2.1; omega, q3⟩⟩
theorem AIY {N : Nat} {ts : List Tie} (hN : N ≤ 64) (h : oks N ts) : ∀ e ∈ trs ts ts.length, In (N : Int) e.1 ∧ In (N : Int) e.2.1 := by
 intro e he
 obtain ⟨i, hi, rfl⟩ := AUo ts e _ he
 exact ANE hN (h i (by simp [hi]))
theorem AXI {N : Nat} {ts : List Tie} (hN : N ≤ 64) (h : oks N ts) : ∀ e ∈ ts.map ed, In (N : Int) e.1 ∧ In (N : Int) e.2.1 := by
 intro e he
 obtain ⟨t, ht, rfl⟩ := List.mem_map.1 he
 obtain ⟨i, hi, rfl⟩ := List.getElem_of_mem ht
 have := ANE hN (h i (by simp [hi]))
 simpa [hi] using this
theorem AKr {N : Nat} (ts : List Tie) (hs : ts.length ≤ 400) (h : oks N ts) : MG (((N : Int), (ts, ())), (0 : Int), ()) = some (trs ts ts.length, ()) := by
 rw [P5, Js]
 have e := CQ (step := B2) (fun i (a : List Edge) => ((0 : Int), a, ts, AQ ts, (i : Int), ())) (List.range ts.length) (fun i a => .inl (if (ts.getD i zT).2.2.2.1 = true then a ++ [ed (ts.getD i zT)] else a)) (fun a => .inl (a, ())) (fun i a => a.length ≤ i) (by simp; omega)
  (fun i x a hi hx ha => by
   refine ⟨fun m' h' => ?_, fun r h' => (by cases h')⟩
   cases h'
   have := Cq hx
   subst this
   rw [List.length_range] at hi
   have hlv := (h x (by simp [hi])).2.2.2.1
   constructor
   ·rw [B2, AP, AL, decide_eq_true hi]
    simp only [DH zT hi, AP]
    have hfit : fits ((a.length : Int) + (([((ts.getD x zT).1, (ts.getD x zT).2.1, ())] : List Edge).length : Int)) = true := B6 (by simp; omega)
    rw [AM (by omega), A2, decide_eq_true hlv]
    cases ht4 : (ts.getD x zT).2.2.2.1
    ·simp
    ·simp only [hfit]
     simp [ed, BX]
   ·split
    ·rw [List.length_append]; simp; omega
    ·omega)
  (fun a _ => by rw [B2, List.length_range, AP, AL, decide_eq_false (by omega)]) [] (Nat.le_refl _)
 have e' : AR B2 many ((0 : Int), [], ts, AQ ts, (0 : Int), ()) = _ := e
 simp only [e']
 rw [BB (fun i a => if (ts.getD i zT).2.2.2.1 = true then a ++ [ed (ts.getD i zT)] else a)]
 rfl
def cnt (out : List Int) (N : Nat) : Nat := ((List.range N).filter fun k => decide (out.getD k 0 = (k : Int))).length
theorem Q2 {N : Nat} {rings : List (List Int)} {l : List Edge} {out : List Int} (h : FC (N : Int) rings l) (hc : PC (N : Int) l out) : rings.length = cnt out N := by
 have hsz := h.fr.sz
 have hp : (rings.map hd).Perm (((List.range N).filter fun k => decide (out.getD k 0 = (k : Int))).map fun (k : Nat) => (k : Int)) := by
  rw [List.perm_ext_iff_of_nodup]
  ·intro a
   simp only [List.mem_map, List.mem_filter, List.mem_range, decide_eq_true_eq]
   constructor
   ·rintro ⟨A, hA, rfl⟩
    have gA := h.fr.rg A hA
    have ih : In (N : Int) (hd A) := Oi gA
    have hh := ADI gA.2.1
    have := AHL h hc hA ih hh
    obtain ⟨_, _, a1, a2⟩ := ih
    refine ⟨(hd A).toNat, ⟨by omega, ?_⟩, by omega⟩
    rw [show out.getD (hd A).toNat 0 = cl out (hd A) from rfl, ← this]
    omega
   ·rintro ⟨k, ⟨hk, ho⟩, rfl⟩
    have ik : In (N : Int) (k : Int) := ⟨hsz.1, hsz.2, by omega, by omega⟩
    obtain ⟨A, hA, hm⟩ := h.fr.cov _ ik
    refine ⟨A, hA, ?_⟩
    rw [AHL h hc hA ik hm]
    unfold cl
    rw [Int.toNat_natCast]; exact ho
  ·exact (List.pairwise_map.2 h.fr.up).imp (fun h => by omega)
  ·refine List.Pairwise.map _ (S := fun a b => a ≠ b) (R := fun a b => a ≠ b) (fun a b h h' => h (by omega)) ?_
   exact (List.nodup_range).filter _
 have := hp.length_eq
 rw [List.length_map, List.length_map] at this
 exact this
theorem LS (N : Nat) (hN : N ≤ 64) (p : List Tie) (q : List Edge) (out : List Int) (ho : out.length = N) : AR Co many ((N : Int), p, q, out, (0 : Int), (0 : Int), ()) = some (.inl ((N : Int), p, q, (cnt out N : Int), ())) := by
 have e := CQ (step := Co) (fun i (a : Nat) => ((N : Int), p, q, out, (a : Int), (i : Int), ())) (List.range N) (fun k a => .inl (if out.getD k 0 = (k : Int) then a + 1 else a)) (fun a => .inl ((N : Int), p, q, (a : Int), ())) (fun i a => a ≤ i) (by simp; omega)
  (fun i x a hi hx ha => by
   refine ⟨fun m' h' => ?_, fun r h' => (by cases h')⟩
   cases h'
   have := Cq hx
   subst this
   rw [List.length_range] at hi
   constructor
   ·rw [Co, AL, decide_eq_true hi]
    simp only [DH 0 (show x < out.length by omega), HY, Av]
    rw [AM (by omega), AM (by omega)]
    by_cases h : out.getD x 0 = (x : Int)
    ·rw [decide_eq_true h, if_pos h]
    ·rw [decide_eq_false h, if_neg h]
   ·split <;> omega)
  (fun a _ => by rw [Co, List.length_range, AL, decide_eq_false (by omega)]) 0 (Nat.le_refl _)
 have e' : AR Co many ((N : Int), p, q, out, (0 : Int), (0 : Int), ()) = _ := e
 rw [e', BB (fun k a => if out.getD k 0 = (k : Int) then a + 1 else a)]
 have key : ∀ (xs : List Nat) (a : Nat), xs.foldl (fun a k => if out.getD k 0 = (k : Int) then a + 1 else a) a = a + (xs.filter fun k => decide (out.getD k 0 = (k : Int))).length := by
  intro xs
  induction xs with
  | nil => intro a; rfl
  | cons x xs ih =>
   intro a
   rw [List.foldl_cons, ih, List.filter_cons]
   by_cases h : out.getD x 0 = (x : Int)
   ·simp only [h, if_true, decide_true, List.length_cons]; omega
   ·simp only [h, if_false, decide_false, Bool.false_eq_true]
 rw [key, Nat.zero_add]
 rfl
theorem Xd (n : Int) (ts : List Tie) (hl : ts.length < 4611686018427387904) : ∃ b : Bool, Dt ((n, (ts, ())), ()) = some (b, ()) ∧ ER ((n, (ts, ())), ()) = some (b, ()) ∧ (b = true → ∃ N : Nat, n = (N : Int) ∧ 1 ≤ N ∧ N ≤ 64 ∧ ts.length ≤ 400 ∧ oks N ts) := by
 by_cases hn : ¬ (1 ≤ n ∧ n ≤ 64)
 ·refine ⟨false, ?_, ?_, fun h => by cases h⟩
  ·rw [EN, De, Aj, Aj]
   by_cases h : n < 1
   ·simp only [decide_eq_true h]
   ·simp only [decide_eq_false h, decide_eq_true (show 64 < n by omega)]
  ·rw [Hn, GL]
   simp only [P6, Ju, A2]
   by_cases h : 1 ≤ n
   ·simp only [decide_eq_true h, decide_eq_false (show ¬ n ≤ 64 by omega), Bool.not_false]
   ·simp only [decide_eq_false h, Bool.not_false]
 have hn := Classical.not_not.1 hn
 obtain ⟨N, rfl⟩ := Int.eq_ofNat_of_zero_le (show 0 ≤ n by omega)
 have hsz : P7 ((N : Int), ()) = some (true, ()) := by
  simp only [P6, Ju, A2, decide_eq_true hn.1, decide_eq_true hn.2]
 by_cases h4 : ¬ ts.length ≤ 400
 ·refine ⟨false, ?_, ?_, fun h => by cases h⟩
  ·rw [EN, De]
   simp only [Aj, AP]
   rw [decide_eq_false (show ¬ (N : Int) < 1 by omega), decide_eq_false (show ¬ 64 < (N : Int) by omega), decide_eq_true (show 400 < (ts.length : Int) by omega)]
  ·rw [Hn, GL]
   simp only [hsz, Bool.not_true, Aj, AP]
   rw [decide_eq_true (show 400 < (ts.length : Int) by omega)]
 have h4 := Classical.not_not.1 h4
 have R := Nd N (by omega) ts h4
 have L := AG2 N (by omega) ts h4
 by_cases ho : ¬ oks N ts
 ·rw [if_neg ho] at R L
  refine ⟨false, ?_, ?_, fun h => by cases h⟩
  ·rw [EN, De]
   simp only [Aj, AP]
   rw [decide_eq_false (show ¬ (N : Int) < 1 by omega), decide_eq_false (show ¬ 64 < (N : Int) by omega), decide_eq_false (show ¬ 400 < (ts.length : Int) by omega)]
   simp only [R]
  ·rw [Hn, GL]
   simp only [hsz, Bool.not_true, Aj, AP, Ns N (by omega)]
   rw [decide_eq_false (show ¬ 400 < (ts.length : Int) by omega)]
   rw [AP] at L
   simp only [L]
 have ho := Classical.not_not.1 ho
 rw [if_pos ho] at R L
 have hin := AIY (show N ≤ 64 by omega) ho
 have hlen := AAw ts ts.length
 obtain ⟨out, hc, hcl⟩ := DJ (N : Int) (trs ts ts.length) hn (by omega) hin
 rcases (ANk (N : Int) (trs ts ts.length) hn (by omega)).symm with ⟨hno, _⟩ | ⟨_, rings, hf, hfc⟩
 ·exact absurd hin hno
 have hcount := Q2 hfc hcl
 have hol : out.length = N := by have := hcl.len; omega
 refine ⟨decide ((cnt out N : Int) = (N : Int) - (trs ts ts.length).length), ?_, ?_, fun _ => ⟨N, rfl, by omega, by omega, h4, ho⟩⟩
 ·rw [EN, De]
  simp only [Aj, AP]
  rw [decide_eq_false (show ¬ (N : Int) < 1 by omega), decide_eq_false (show ¬ 64 < (N : Int) by omega), decide_eq_false (show ¬ 400 < (ts.length : Int) by omega)]
  simp only [R, hc, LS N (by omega) _ _ out hol, Av]
  rw [Ah (by omega)]
 ·rw [Hn, GL]
  simp only [hsz, Bool.not_true, Aj, AP, Ns N (by omega)]
  rw [decide_eq_false (show ¬ 400 < (ts.length : Int) by omega)]
  rw [AP] at L
  simp only [L, AKr ts h4 ho, hf, Hr, Av, hcount]
  rw [Ah (by omega)]
end Go.Pev.Pl
end
section
namespace Go.Pev.Pl
set_option linter.unusedSimpArgs false
set_option maxRecDepth 100000
theorem PC.unique {N : Nat} {l : List Edge} {a b : List Int} (h1 : 1 ≤ N) (h2 : N ≤ 64) (ha : PC (N : Int) l a) (hb : PC (N : Int) l b) : a = b := by
 have la := ha.len
 have lb := hb.len
 refine ADg (0 : Int) (by omega) fun k hk => ?_
 have ik : In (N : Int) (k : Int) := ⟨by omega, by omega, by omega, by omega⟩
 have e1 := ha.least _ _ ik (hb.isin _ ik) (hb.con _ ik)
 have e2 := hb.least _ _ ik (ha.isin _ ik) (ha.con _ ik)
 unfold cl at e1 e2
 rw [Int.toNat_natCast] at e1 e2
 omega
theorem AAL (xs : List Tie) (a : List Edge) : xs.foldl (fun a x => a ++ [ed x]) a = a ++ xs.map ed := AQW ed xs a
theorem AK2 (n : Int) (ts : List Tie) (hs : ts.length ≤ 400) (h : ER ((n, (ts, ())), ()) = some (true, ())) : We ((n, (ts, ())), ()) = some (ts.map ed, ()) := by
 rw [AAA, Nt]
 simp only [h, Bool.not_true]
 have e := CQ (step := ES) (fun i (a : List Edge) => (a, ts, AQ ts, (i : Int), ())) ts (fun x a => .inl (a ++ [ed x])) (fun a => .inl (a, ())) (fun i a => a.length ≤ i) (by omega)
  (fun i x a hi hx ha => by
   refine ⟨fun m' h' => ?_, fun r h' => (by cases h')⟩
   cases h'
   constructor
   ·rw [ES]
    simp only [AP]
    rw [AL, decide_eq_true hi]
    simp only [AY hx]
    rw [B6 (by simp; omega), AM (by omega)]
    rfl
   ·rw [List.length_append]; simp; omega)
  (fun a _ => by rw [ES, AP, AL, decide_eq_false (by omega)]) [] (Nat.le_refl _)
 have e' : AR ES many ([], ts, AQ ts, (0 : Int), ()) = _ := e
 simp only [e']
 rw [BB (fun x a => a ++ [ed x]), AAL]
 rfl
theorem AHf (n : Int) (ts : List Tie) (hs : ts.length ≤ 400) (h : Dt ((n, (ts, ())), ()) = some (true, ())) : ON ((n, (ts, ())), ()) = some (ts.map ed, ()) := by
 rw [XE, K4]
 simp only [h, Bool.not_true]
 have e := CQ (step := DV) (fun i (a : List Edge) => (n, ts, a, (i : Int), ())) ts (fun x a => .inl (a ++ [ed x])) (fun a => .inl (a, ())) (fun i a => a.length ≤ i) (by omega)
  (fun i x a hi hx ha => by
   refine ⟨fun m' h' => ?_, fun r h' => (by cases h')⟩
   cases h'
   constructor
   ·rw [DV]
    simp only [AP]
    rw [AL, decide_eq_true hi]
    simp only [AY hx]
    rw [B6 (by simp; omega), AM (by omega)]
    rfl
   ·rw [List.length_append]; simp; omega)
  (fun a _ => by rw [DV, AP, AL, decide_eq_false (by omega)]) [] (Nat.le_refl _)
 have e' : AR DV many (n, ts, [], (0 : Int), ()) = _ := e
 simp only [e']
 rw [BB (fun x a => a ++ [ed x]), AAL]
 rfl
def InV (N : Nat) (x : Int) : Prop := 0 ≤ x ∧ x < (N : Int)
instance (N : Nat) (x : Int) : Decidable (InV N x) := inferInstanceAs (Decidable (_ ∧ _))
theorem AQV (P : Nat → Prop) [DecidablePred P] : ∀ (xs : List Nat) (a : Nat), xs.foldl (fun a k => if P k then a + 1 else a) a = a + (xs.filter fun k => decide (P k)).length := by
 intro xs
 induction xs with
 | nil => intro a; rfl
 | cons x xs ih =>
  intro a
  rw [List.foldl_cons, ih, List.filter_cons]
  by_cases h : P x
  ·simp only [h, if_true, decide_true, List.length_cons]; omega
  ·simp only [h, if_false, decide_false, Bool.false_eq_true]
end Go.Pev.Pl
end
section
namespace Go.Pev.Pl
set_option linter.unusedSimpArgs false
set_option maxRecDepth 100000
end Go.Pev.Pl
end
section
namespace Go.Pev.Pl
set_option linter.unusedSimpArgs false
set_option maxRecDepth 100000
def AWB (l : List Edge) (u v : Int) : Prop := ((u, (v, ())) : Edge) ∈ l ∨ ((v, (u, ())) : Edge) ∈ l
instance (l : List Edge) (u v : Int) : Decidable (AWB l u v) := inferInstanceAs (Decidable (_ ∨ _))
def AVK (N : Nat) (l : List Edge) (u : Nat) : List Edge := ((List.range (N - (u + 1))).filter fun i => decide (AWB l (u : Int) ((u + 1 + i : Nat) : Int))).map fun (i : Nat) => ((u : Int), ((u + 1 + i : Nat) : Int), ())
def Vg (N : Nat) (l : List Edge) : List Edge := (List.range N).flatMap fun u => AVK N l u
end Go.Pev.Pl
end
section
namespace Go.Pev.Pl
set_option linter.unusedSimpArgs false
set_option maxRecDepth 100000
def H0 (N : Nat) (ts : List Tie) (l : List Edge) : List Edge := (Vg N l).filter fun x => !decide (x ∈ ts.map ed)
def Vd (l : List Tie) (t : Tie) : List Tie := l.take (l.findIdx fun x => !decide (ahead x t)) ++ t :: l.drop (l.findIdx fun x => !decide (ahead x t))
end Go.Pev.Pl
end
section
namespace Go.Pev.Pl
set_option linter.unusedSimpArgs false
def valid (N : Nat) (t : Tie) : Prop := 0 ≤ t.1 ∧ t.1 < t.2.1 ∧ t.2.1 < (N : Int) ∧ 0 ≤ t.2.2.1 ∧ t.2.2.1 ≤ FF N
theorem ahead.trans {a b c : Tie} (h : ahead a b) (h' : ahead b c) : ahead a c := by
 unfold ahead at *
 omega
theorem Kw (N : Nat) (ts : List Tie) : oks N ts ↔ (∀ t ∈ ts, valid N t) ∧ ts.Pairwise ahead := by
 constructor
 ·intro h
  have hv : ∀ i, i < ts.length → JJ N ts i := fun i hi => h i (by simpa using hi)
  refine ⟨fun t ht => ?_, ?_⟩
  ·obtain ⟨i, hi, rfl⟩ := List.getElem_of_mem ht
   obtain ⟨q1, q2, q3, q4, q5, _⟩ := hv i hi
   simp only [List.getD_eq_getElem?_getD, List.getElem?_eq_getElem hi, Option.getD_some] at q1 q2 q3 q4 q5
   exact ⟨q1, q2, q3, q4, q5⟩
  ·have key : ∀ (d i : Nat), i + d + 1 < ts.length → ahead (ts.getD i zT) (ts.getD (i + d + 1) zT) := by
    intro d
    induction d with
    | zero =>
     intro i hi
     obtain ⟨_, _, _, _, _, q⟩ := hv (i + 0 + 1) hi
     rcases q with q | q
     ·omega
     ·simpa using q
    | succ d ih =>
     intro i hi
     have h1 := ih i (by omega)
     obtain ⟨_, _, _, _, _, q⟩ := hv (i + (d + 1) + 1) hi
     rcases q with q | q
     ·omega
     ·rw [show i + (d + 1) + 1 - 1 = i + d + 1 by omega] at q
      exact h1.trans q
   rw [List.pairwise_iff_getElem]
   intro i j hi hj hij
   have := key (j - i - 1) i (by omega)
   rw [show i + (j - i - 1) + 1 = j by omega] at this
   simpa only [List.getD_eq_getElem?_getD, List.getElem?_eq_getElem hi, List.getElem?_eq_getElem hj, Option.getD_some] using this
 ·rintro ⟨h1, h2⟩ i hi
  have hi : i < ts.length := by simpa using hi
  have e : ∀ j (hj : j < ts.length), ts.getD j zT = ts[j] := fun j hj => by
   simp only [List.getD_eq_getElem?_getD, List.getElem?_eq_getElem hj, Option.getD_some]
  obtain ⟨q1, q2, q3, q4, q5⟩ := h1 ts[i] (List.getElem_mem hi)
  unfold JJ
  rw [e i hi]
  refine ⟨q1, q2, q3, q4, q5, ?_⟩
  by_cases h0 : i = 0
  ·exact .inl h0
  ·right
   rw [e (i - 1) (by omega)]
   exact (List.pairwise_iff_getElem.1 h2) (i - 1) i (by omega) hi (by omega)
theorem Zs (l : List Tie) (t : Tie) : (Vd l t).Perm (t :: l) := by
 unfold Vd
 refine List.perm_middle.trans ?_
 rw [List.take_append_drop]
theorem APG {l : List Tie} {t : Tie} (h : l.Pairwise ahead) (hn : ∀ x ∈ l, ¬ (x.1 = t.1 ∧ x.2.1 = t.2.1)) : (Vd l t).Pairwise ahead := by
 induction l with
 | nil => simp [Vd]
 | cons a l ih =>
  rw [List.pairwise_cons] at h
  have hna := hn a (by simp)
  have hnl : ∀ x ∈ l, ¬ (x.1 = t.1 ∧ x.2.1 = t.2.1) := fun x hx => hn x (by simp [hx])
  by_cases ha : ahead a t
  ·have e : Vd (a :: l) t = a :: Vd l t := by
    unfold Vd
    rw [List.findIdx_cons]
    simp [ha]
   rw [e, List.pairwise_cons]
   refine ⟨fun x hx => ?_, ih h.2 hnl⟩
   rcases List.mem_cons.1 ((Zs l t).mem_iff.1 hx) with rfl | hx
   ·exact ha
   ·exact h.1 x hx
  ·have e : Vd (a :: l) t = t :: a :: l := by
    unfold Vd
    rw [List.findIdx_cons]
    simp [ha]
   have hta : ahead t a := by unfold ahead at *; omega
   rw [e, List.pairwise_cons, List.pairwise_cons]
   refine ⟨fun x hx => ?_, h.1, h.2⟩
   rcases List.mem_cons.1 hx with rfl | hx
   ·exact hta
   ·exact hta.trans (h.1 x hx)
end Go.Pev.Pl
end
section
namespace Go.Pev.Pl
set_option linter.unusedSimpArgs false
theorem AKm (N : Nat) (l : List Edge) (x : Edge) : x ∈ Vg N l ↔ 0 ≤ x.1 ∧ x.1 < x.2.1 ∧ x.2.1 < (N : Int) ∧ AWB l x.1 x.2.1 := by
 unfold Vg AVK
 simp only [List.mem_flatMap, List.mem_map, List.mem_filter, List.mem_range, decide_eq_true_eq]
 constructor
 ·rintro ⟨u, hu, i, ⟨hi, he⟩, rfl⟩
  exact ⟨by show (0 : Int) ≤ (u : Int); omega, by show (u : Int) < ((u + 1 + i : Nat) : Int); omega, by show ((u + 1 + i : Nat) : Int) < (N : Int); omega, he⟩
 ·obtain ⟨a, b, ⟨⟩⟩ := x
  rintro ⟨h1, h2, h3, h4⟩
  simp only at h1 h2 h3 h4
  obtain ⟨u, rfl⟩ := Int.eq_ofNat_of_zero_le h1
  obtain ⟨v, rfl⟩ := Int.eq_ofNat_of_zero_le (show 0 ≤ b by omega)
  refine ⟨u, by omega, v - (u + 1), ⟨by omega, ?_⟩, ?_⟩
  ·rw [show u + 1 + (v - (u + 1)) = v by omega]; exact h4
  ·rw [show u + 1 + (v - (u + 1)) = v by omega]
def AEH (p x : Edge) : Prop := p.1 < x.1 ∨ (p.1 = x.1 ∧ p.2.1 < x.2.1)
theorem AF8 (N : Nat) (l : List Edge) : (Vg N l).Pairwise AEH := by
 unfold Vg
 rw [List.pairwise_flatMap]
 refine ⟨fun u _ => ?_, ?_⟩
 ·unfold AVK
  rw [List.pairwise_map]
  refine List.Pairwise.filter _ ?_
  refine List.pairwise_lt_range.imp fun h => ?_
  exact .inr ⟨rfl, by show ((u + 1 + _ : Nat) : Int) < ((u + 1 + _ : Nat) : Int); omega⟩
 ·refine List.pairwise_lt_range.imp fun h x hx y hy => ?_
  unfold AVK at hx hy
  simp only [List.mem_map] at hx hy
  obtain ⟨i, _, rfl⟩ := hx
  obtain ⟨j, _, rfl⟩ := hy
  exact .inl (by simp only; omega)
theorem Pv (N : Nat) (ts : List Tie) (l : List Edge) (x : Edge) : x ∈ H0 N ts l ↔ (0 ≤ x.1 ∧ x.1 < x.2.1 ∧ x.2.1 < (N : Int) ∧ AWB l x.1 x.2.1) ∧ ¬ x ∈ ts.map ed := by
 unfold H0
 rw [List.mem_filter, AKm]
 simp
theorem AL1 (N : Nat) (ts : List Tie) (l : List Edge) : (H0 N ts l).Pairwise AEH := (AF8 N l).filter _
end Go.Pev.Pl
end
section
namespace Go.Pev.Pl
open Tok
instance (n v : Int) : Decidable (In n v) := inferInstanceAs (Decidable (_ ∧ _))
instance (n : Int) : Decidable (Sz n) := inferInstanceAs (Decidable (_ ∧ _))
end Go.Pev.Pl
end
section
namespace Go.Pev.Pl
instance (xs : List Int) : Decidable (Rt xs) := inferInstanceAs (Decidable (_ ∧ _ ∧ _))
end Go.Pev.Pl
end
section
namespace Go.Pev.Pl
open Tok
noncomputable instance (n : Int) (xs : List Int) : Decidable (TI n xs) := Classical.propDecidable _
end Go.Pev.Pl
end
section
namespace Go.Pev.Pl
open Tok
end Go.Pev.Pl
end
section
namespace Go.Pev.Pl
open Tok
end Go.Pev.Pl
end
section
namespace Go.Pev.Pl
open Tok
noncomputable instance (n : Int) (rings : List (List Int)) : Decidable (RF n rings) := Classical.propDecidable _
noncomputable instance (n : Int) (xs : List Int) : Decidable (RG n xs) := Classical.propDecidable _
end Go.Pev.Pl
end
end
section
section
namespace Go.Pev.Pl
open Tok
end Go.Pev.Pl
end
section
namespace Go.Pev.Pl
open Tok
end Go.Pev.Pl
end
section
namespace Go.Pev.Pl
open Tok
end Go.Pev.Pl
end
section
namespace Go.Pev.Pl
open Tok
theorem AUs (n : Int) (rings : List (List Int)) (v : Int) (hD : Dom rings) : tof ((n, (rings, ())), v, ()) = some (if RF n rings ∧ In n v then plc rings v else -1, ()) := by
 rw [ARV, AMX]
 simp only [SZ, Lj n rings hD.1 hD.2, Lm n rings v hD.1 (fun l hl => (hD.2 l hl).1)]
 by_cases h1 : In n v
 ·by_cases h2 : RF n rings <;> simp [h1, h2]
 ·simp [h1]
end Go.Pev.Pl
end
section
namespace Go.Pev.Pl
open Go.RowKit Tok
end Go.Pev.Pl
end
section
namespace Go.Pev.Pl
open Tok
end Go.Pev.Pl
end
section
namespace Go.Pev.Pl
open Tok
set_option linter.unusedSimpArgs false
end Go.Pev.Pl
end
section
namespace Go.Pev.Pl
open Tok
set_option linter.unusedSimpArgs false
def sel (l : List Edge) (bs : List Bool) : List Edge := ((l.zip bs).filter fun p => p.2).map fun p => p.1
end Go.Pev.Pl
end
section
namespace Go.Pev.Pl
open Tok
instance (n v : Int) : Decidable (In n v) := inferInstanceAs (Decidable (_ ∧ _))
instance (n : Int) : Decidable (Sz n) := inferInstanceAs (Decidable (_ ∧ _))
end Go.Pev.Pl
end
section
namespace Go.Pev.Pl
instance (xs : List Int) : Decidable (Rt xs) := inferInstanceAs (Decidable (_ ∧ _ ∧ _))
end Go.Pev.Pl
end
section
namespace Go.Pev.Pl
open Tok
noncomputable instance (n : Int) (xs : List Int) : Decidable (TI n xs) := Classical.propDecidable _
end Go.Pev.Pl
end
section
namespace Go.Pev.Pl
open Tok
noncomputable instance (n : Int) (rings : List (List Int)) : Decidable (RF n rings) := Classical.propDecidable _
noncomputable instance (n : Int) (xs : List Int) : Decidable (RG n xs) := Classical.propDecidable _
end Go.Pev.Pl
end
section
namespace Go.Pev.Pl
open Tok
end Go.Pev.Pl
end
section
namespace Go.Pev.Pl
open Tok
set_option linter.unusedSimpArgs false
end Go.Pev.Pl
end
section
namespace Go.Pev.Pl
open Tok
set_option linter.unusedSimpArgs false
end Go.Pev.Pl
end
section
namespace Go.Pev.Pl
open Tok
set_option linter.unusedSimpArgs false
set_option maxRecDepth 100000
end Go.Pev.Pl
end
section
namespace Go.Pev.Pl
open Tok
theorem AF4 {N : Nat} (h1 : 1 ≤ N) (hN : N ≤ 64) {ts : List Tie} (hs : ts.length ≤ 400) (ho : oks N ts) {out : List Int} (hc : PC (N : Int) (trs ts ts.length) out) :
  Dt (((N : Int), (ts, ())), ()) = some (decide ((cnt out N : Int) = (N : Int) - (trs ts ts.length).length), ()) := by
 have R := Nd N hN ts hs
 rw [if_pos ho] at R
 have hin := AIY hN ho
 have hlen := AAw ts ts.length
 obtain ⟨o2, e2, c2⟩ := DJ (N : Int) (trs ts ts.length) ⟨by omega, by omega⟩ (by omega) hin
 have := PC.unique h1 hN hc c2
 subst this
 have hol : out.length = N := by have := hc.len; omega
 rw [EN, De]
 simp only [Aj, AP]
 rw [decide_eq_false (show ¬ (N : Int) < 1 by omega), decide_eq_false (show ¬ 64 < (N : Int) by omega), decide_eq_false (show ¬ 400 < (ts.length : Int) by omega)]
 simp only [R, e2, LS N hN _ _ out hol, Av]
 rw [Ah (by omega)]
end Go.Pev.Pl
end
section
namespace Go.Pev.Pl
open Tok
set_option linter.unusedSimpArgs false
theorem Con.perm {l l' : List Edge} (h : ∀ e, e ∈ l ↔ e ∈ l') {a b : Int} : Con l a b ↔ Con l' a b :=
 ⟨fun c => c.mono fun e he => ⟨e, (h e).1 he, .inl ⟨rfl, rfl⟩⟩, fun c => c.mono fun e he => ⟨e, (h e).2 he, .inl ⟨rfl, rfl⟩⟩⟩
theorem PC.congr {n : Int} {l l' : List Edge} {out : List Int} (h : ∀ a b, Con l a b ↔ Con l' a b) (hc : PC n l out) : PC n l' out :=
 ⟨hc.len, fun a b ia ib => (hc.same a b ia ib).trans (h a b), hc.isin, fun a ia => (h a _).1 (hc.con a ia), fun a b ia ib c => hc.least a b ia ib ((h a b).2 c)⟩
end Go.Pev.Pl
end
section
namespace Go.Pev.Pl
open Tok
set_option linter.unusedSimpArgs false
def ZF (x : Edge) (b : Bool) : Tie := (x.1, x.2.1, 0, b, ())
def SV (ts : List Tie) (xs : List Edge) (bs : List Bool) (k : Nat) : List Tie := (List.range k).foldl (fun a i => Vd a (ZF (xs.getD i (0, 0, ())) (bs.getD i false))) ts
end Go.Pev.Pl
end
section
namespace Go.Pev.Pl
open Tok
set_option linter.unusedSimpArgs false
def AKa (xs : List Edge) (bs : List Bool) (k : Nat) : List Tie := (List.range k).map fun i => ZF (xs.getD i (0, 0, ())) (bs.getD i false)
theorem AAb (ts : List Tie) (xs : List Edge) (bs : List Bool) (k : Nat) : SV ts xs bs (k + 1) = Vd (SV ts xs bs k) (ZF (xs.getD k (0, 0, ())) (bs.getD k false)) := by
 unfold SV
 rw [List.range_succ, List.foldl_append]
 rfl
theorem Qi (ts : List Tie) (xs : List Edge) (bs : List Bool) : ∀ k, (SV ts xs bs k).Perm (ts ++ AKa xs bs k) := by
 intro k
 induction k with
 | zero => simp [SV, AKa]
 | succ k ih =>
  rw [AAb]
  refine (Zs _ _).trans ?_
  unfold AKa at *
  rw [List.range_succ, List.map_append, ← List.append_assoc]
  refine (List.Perm.cons _ ih).trans ?_
  exact (List.perm_append_singleton _ _).symm
end Go.Pev.Pl
end
section
namespace Go.Pev.Pl
open Tok
set_option linter.unusedSimpArgs false
theorem AUd {N : Nat} {ts : List Tie} (h : oks N ts) (hv0 : 0 ≤ FF N) {xs : List Edge} (bs : List Bool) (hp : xs.Pairwise AEH) (hx : ∀ e ∈ xs, 0 ≤ e.1 ∧ e.1 < e.2.1 ∧ e.2.1 < (N : Int)) (hn : ∀ e ∈ xs, ¬ e ∈ ts.map ed) : oks N (SV ts xs bs xs.length) := by
 rw [Kw] at h ⊢
 obtain ⟨h1, h2⟩ := h
 have hget : ∀ i (hi : i < xs.length), xs.getD i (0, 0, ()) = xs[i] := fun i hi => by
  simp only [List.getD_eq_getElem?_getD, List.getElem?_eq_getElem hi, Option.getD_some]
 have hmem : ∀ k, k ≤ xs.length → ∀ t ∈ SV ts xs bs k, t ∈ ts ∨ ∃ i, i < k ∧ t = ZF (xs.getD i (0, 0, ())) (bs.getD i false) := by
  intro k hk t ht
  rcases List.mem_append.1 ((Qi ts xs bs k).mem_iff.1 ht) with h | h
  ·exact .inl h
  ·unfold AKa at h
   obtain ⟨i, hi, rfl⟩ := List.mem_map.1 h
   exact .inr ⟨i, by simpa using hi, rfl⟩
 refine ⟨fun t ht => ?_, ?_⟩
 ·rcases hmem _ (Nat.le_refl _) t ht with h | ⟨i, hi, rfl⟩
  ·exact h1 t h
  ·rw [hget i hi]
   obtain ⟨q1, q2, q3⟩ := hx xs[i] (List.getElem_mem hi)
   exact ⟨q1, q2, q3, by show (0 : Int) ≤ 0; omega, hv0⟩
 ·have key : ∀ k, k ≤ xs.length → (SV ts xs bs k).Pairwise ahead := by
   intro k
   induction k with
   | zero => intro _; exact h2
   | succ k ih =>
    intro hk
    rw [AAb]
    refine APG (ih (by omega)) fun t ht => ?_
    rw [hget k (by omega)]
    rintro ⟨e1, e2⟩
    rcases hmem k (by omega) t ht with h | ⟨i, hi, rfl⟩
    ·refine hn xs[k] (List.getElem_mem (by omega)) (List.mem_map.2 ⟨t, h, ?_⟩)
     unfold ed
     rw [e1, e2]
     rfl
    ·rw [hget i (by omega)] at e1 e2
     have := (List.pairwise_iff_getElem.1 hp) i k (by omega) (by omega) hi
     unfold AEH at this
     simp only [ZF] at e1 e2
     omega
  exact key _ (Nat.le_refl _)
end Go.Pev.Pl
end
section
namespace Go.Pev.Pl
open Tok
set_option linter.unusedSimpArgs false
theorem ARG (ts : List Tie) : ∀ k, k ≤ ts.length → trs ts k = ((ts.take k).filter fun t => t.2.2.2.1).map ed := by
 intro k
 induction k with
 | zero => intro _; simp [trs]
 | succ k ih =>
  intro hk
  have hk' : k < ts.length := by omega
  rw [TK, ih (by omega), List.take_succ_eq_append_getElem hk', List.filter_append, List.map_append]
  simp only [List.getD_eq_getElem?_getD, List.getElem?_eq_getElem hk', Option.getD_some]
  cases h : ts[k].2.2.2.1
  ·simp [h]
  ·simp [h]
theorem AAx (ts : List Tie) : trs ts ts.length = (ts.filter fun t => t.2.2.2.1).map ed := by
 rw [ARG ts _ (Nat.le_refl _), List.take_length]
end Go.Pev.Pl
end
section
namespace Go.Pev.Pl
open Tok
set_option linter.unusedSimpArgs false
theorem ATB {xs : List Edge} {bs : List Bool} (h : bs.length = xs.length) : AKa xs bs xs.length = (xs.zip bs).map fun p => ZF p.1 p.2 := by
 unfold AKa
 apply List.ext_getElem
 ·simp [h]
 ·intro i h1 h2
  have hi : i < xs.length := by simpa using h1
  simp [hi, show i < bs.length by omega]
theorem AUc (ts : List Tie) {xs : List Edge} {bs : List Bool} (h : bs.length = xs.length) : (trs (SV ts xs bs xs.length) (SV ts xs bs xs.length).length).Perm (trs ts ts.length ++ sel xs bs) := by
 rw [AAx, AAx]
 refine (((Qi ts xs bs xs.length).filter _).map ed).trans ?_
 rw [List.filter_append, List.map_append, ATB h, List.filter_map, List.map_map]
 exact List.Perm.refl _
theorem AUe (ts : List Tie) (xs : List Edge) (bs : List Bool) : ∀ k, (SV ts xs bs k).length = ts.length + k := by
 intro k
 rw [(Qi ts xs bs k).length_eq]
 simp [AKa]
end Go.Pev.Pl
end
end
section
section
namespace Go.Pev.Pl
open Tok
set_option linter.unusedSimpArgs false
set_option maxRecDepth 100000
theorem AUL {N : Nat} (hN : N ≤ 64) (ts : List Tie) (l : List Edge) : ∀ e ∈ H0 N ts l, In (N : Int) e.1 ∧ In (N : Int) e.2.1 := by
 intro e he
 obtain ⟨⟨a, b, c, _⟩, _⟩ := (Pv N ts l e).1 he
 exact ⟨⟨by omega, by omega, a, by omega⟩, ⟨by omega, by omega, by omega, c⟩⟩
end Go.Pev.Pl
end
section
namespace Go.Pev.Pl
open Tok
set_option linter.unusedSimpArgs false
set_option maxRecDepth 100000
theorem AWj {N : Nat} (h1 : 1 ≤ N) (hN : N ≤ 64) {a : Int} (h : 0 ≤ a ∧ a < (N : Int)) : In (N : Int) a := ⟨by omega, by omega, h.1, h.2⟩
theorem ATZ {N : Nat} {e : Edge} (h : In (N : Int) e.1 ∧ In (N : Int) e.2.1) : InE N e := ⟨⟨h.1.2.2.1, h.1.2.2.2⟩, ⟨h.2.2.2.1, h.2.2.2.2⟩⟩
theorem AL2 {N : Nat} (h1 : 1 ≤ N) (hN : N ≤ 64) {l : List Edge} {out : List Int} (hc : PC (N : Int) l out) : cnt out N = cc N l := by
 unfold cnt cc
 rw [List.countP_eq_length_filter]
 congr 1
 refine List.filter_congr fun k hk => ?_
 have hk : k < N := by simpa using hk
 have ik := AWj h1 hN (a := (k : Int)) ⟨by omega, by omega⟩
 have hg : out.getD k 0 = cl out (k : Int) := by unfold cl; rw [Int.toNat_natCast]
 rw [hg, Bool.eq_iff_iff, decide_eq_true_iff, E7]
 constructor
 ·intro h j hj hcn
  have := hc.least (k : Int) (j : Int) ik (AWj h1 hN ⟨by omega, by omega⟩) hcn.symm
  omega
 ·intro h
  have a1 := hc.isin _ ik
  have a2 := hc.con _ ik
  have a3 := hc.least (k : Int) (k : Int) ik ik (.refl _)
  obtain ⟨m, hm⟩ := Int.eq_ofNat_of_zero_le a1.2.2.1
  rw [hm] at a2 a3 ⊢
  by_cases hlt : m < k
  ·exact absurd a2.symm (h m hlt)
  ·omega
theorem FC.count {N : Nat} (h1 : 1 ≤ N) (hN : N ≤ 64) {rings : List (List Int)} {l : List Edge} (h : FC (N : Int) rings l) (hs : l.length < 1073741824) (ha : ∀ e ∈ l, In (N : Int) e.1 ∧ In (N : Int) e.2.1) : rings.length = cc N l := by
 obtain ⟨o, _, c⟩ := DJ (N : Int) l ⟨by omega, by omega⟩ hs ha
 rw [Q2 h c, AL2 h1 hN c]
theorem FC.congr {n : Int} {rings : List (List Int)} {l l' : List Edge} (h : FC n rings l) (hm : ∀ e ∈ l, e ∈ l') (hc : ∀ e ∈ l', Con l e.1 e.2.1) : FC n rings l' :=
 ⟨h.fr, fun a b ia ib => (h.sam a b ia ib).trans ⟨fun c => c.sub hm, fun c => c.cut hc⟩, fun A hA u v ho hu => by
  obtain ⟨e, he, q⟩ := h.arcs A hA u v ho hu
  exact ⟨e, hm e he, q⟩⟩
theorem AF3 {N : Nat} (h1 : 1 ≤ N) (hN : N ≤ 64) {ts : List Tie} (hs : ts.length ≤ 400) (ho : oks N ts) : Dt (((N : Int), (ts, ())), ()) = some (true, ()) ↔ Fo N (trs ts ts.length) := by
 have hlen := AAw ts ts.length
 obtain ⟨o, _, c⟩ := DJ (N : Int) (trs ts ts.length) ⟨by omega, by omega⟩ (by omega) (AIY hN ho)
 rw [AF4 h1 hN hs ho c, AL2 h1 hN c]
 unfold Fo
 constructor
 ·intro h
  have : decide ((cc N (trs ts ts.length) : Int) = (N : Int) - (trs ts ts.length).length) = true := by injection h with h; injection h
  have := of_decide_eq_true this
  omega
 ·intro h
  rw [decide_eq_true (by omega)]
theorem AJN {N : Nat} (hN : N ≤ 64) {c : Int → Int} {s : List Int} (hs : UF N s c) {u v : Nat} (hu : u < N) (hv : v < N) : ∃ s', ZY (s, (u : Int), (v : Int), ()) = some (s', !decide (c (u : Int) = c (v : Int)), ()) ∧ UF N s' (Zp c u v) := by
 obtain ⟨s', b, e, g⟩ := ZX hN hs hu hv
 refine ⟨s', ?_, g⟩
 rw [e]
 obtain ⟨s1, e1, g1, _⟩ := GJ hN hs hu
 obtain ⟨s2, e2, g2, _⟩ := GJ hN g1 hv
 rw [UJ, NV] at e
 simp only [e1, e2, Av] at e
 split at e
 ·cases e
 ·cases e
  rfl
theorem ADm {N : Nat} (h1 : 1 ≤ N) (hN : N ≤ 64) (l : List Edge) (hs : l.length < 1073741824) (ha : ∀ e ∈ l, In (N : Int) e.1 ∧ In (N : Int) e.2.1) :
  ∃ s, Hx (l, (List.range N).map (fun (k : Nat) => (k : Int)), ()) = some (s, gfl [] l, ()) := by
 rw [KD, GU]
 have key : ∀ (m i n : Nat) (s : List Int) (c : Int → Int), l.length - i = m → i ≤ l.length → m < n → UF N s c → KP N c (l.take i) →
   ∃ s', AU BW n (s, gfl [] (l.take i), l, AQ l, (i : Int), ()) = some (.inl (s', gfl [] l, ())) := by
  intro m
  induction m with
  | zero =>
   intro i n s c hm hi hn hu ht
   obtain ⟨n, rfl⟩ : ∃ k, n = k + 1 := ⟨n - 1, by omega⟩
   have e : i = l.length := by omega
   subst e
   rw [AU, BW, AP, AL, decide_eq_false (by omega), List.take_length]
   exact ⟨s, rfl⟩
  | succ m ih =>
   intro i n s c hm hi hn hu ht
   obtain ⟨n, rfl⟩ : ∃ k, n = k + 1 := ⟨n - 1, by omega⟩
   have hi' : i < l.length := by omega
   have hx : l[i]? = some l[i] := by simp [hi']
   obtain ⟨i1, i2⟩ := ha l[i] (List.getElem_mem hi')
   have htl := ht l[i].1 l[i].2.1 i1 i2
   obtain ⟨_, _, a1, a2⟩ := i1
   obtain ⟨_, _, b1, b2⟩ := i2
   obtain ⟨u, hu'⟩ := Int.eq_ofNat_of_zero_le a1
   obtain ⟨v, hv'⟩ := Int.eq_ofNat_of_zero_le b1
   obtain ⟨s', e, g⟩ := AJN hN hu (u := u) (v := v) (by omega) (by omega)
   have hlt : (l.take i).length = i := by rw [List.length_take]; omega
   rw [AU, BW, AP, AL, decide_eq_true hi']
   simp only [AY hx, hu', hv', e, AP]
   rw [B6 (by rw [ANh, hlt]; simp; omega), AM (by omega)]
   have htk : l.take (i + 1) = l.take i ++ [l[i]] := List.take_succ_eq_append_getElem hi'
   have hfl : BX (gfl [] (l.take i)) [!decide (c (u : Int) = c (v : Int))] = gfl [] (l.take (i + 1)) := by
    rw [htk, ATr, HZ, List.nil_append]
    congr 2
    rw [hu', hv'] at htl ⊢
    congr 1
    rw [Bool.eq_iff_iff, decide_eq_true_iff, BN]
    exact htl
   rw [hfl]
   refine ih (i + 1) n s' _ (by omega) (by omega) (by omega) g ?_
   rw [htk]
   have := ht.snoc (e := l[i]) (ha l[i] (List.getElem_mem hi')).1 (ha l[i] (List.getElem_mem hi')).2
   rw [hu', hv'] at this
   exact this
 obtain ⟨s, e⟩ := key l.length 0 many _ _ rfl (Nat.zero_le _) (by simp only [many]; omega) (AID N) (by
  intro a b _ _
  rw [List.take_zero]
  exact ⟨fun h => by have h : a = b := h; rw [h]; exact .refl _, fun h => h.nil⟩)
 have e' : AR BW many ((List.range N).map (fun (k : Nat) => (k : Int)), [], l, AQ l, (0 : Int), ()) = _ := (Ag _ _ _).trans e
 rw [e']
 exact ⟨s, rfl⟩
end Go.Pev.Pl
end
section
namespace Go.Pev.Pl
open Tok
set_option linter.unusedSimpArgs false
set_option maxRecDepth 100000
end Go.Pev.Pl
end
section
namespace Go.Pev.Pl.SE
open Go.Sort
def ok (_ : Int × Int × Unit) : Prop := True
def okz : Int × Int × Unit := (0, 0, ())
theorem WJ : ok okz := trivial
def lt (x y : Int × Int × Unit) : Bool := decide (x.1 < y.1 ∨ (x.1 = y.1 ∧ x.2.1 < y.2.1))
theorem swo : SWO lt := ⟨fun x => by simp [lt], fun x y z h1 h2 => by simp only [lt, decide_eq_true_eq] at *; omega, fun x y z h1 h2 => by simp only [lt, decide_eq_false_iff_not] at *; omega⟩
end Go.Pev.Pl.SE
end
section
namespace Go.Pev.Pl.ST
open Go.Sort
def ok (_ : Int × Int × Int × Bool × Unit) : Prop := True
def okz : Int × Int × Int × Bool × Unit := (0, 0, 0, false, ())
theorem WJ : ok okz := trivial
def lt (x y : Int × Int × Int × Bool × Unit) : Bool := decide (x.1 < y.1 ∨ (x.1 = y.1 ∧ x.2.1 < y.2.1))
theorem swo : SWO lt := ⟨fun x => by simp [lt], fun x y z h1 h2 => by simp only [lt, decide_eq_true_eq] at *; omega, fun x y z h1 h2 => by simp only [lt, decide_eq_false_iff_not] at *; omega⟩
end Go.Pev.Pl.ST
end
section
namespace Go.Pev.Pl
open Tok
set_option linter.unusedSimpArgs false
set_option maxRecDepth 100000
section
variable {α β : Type} [DecidableEq α]
end
end Go.Pev.Pl
end
section
namespace Go.Pev.Pl
open Tok
set_option linter.unusedSimpArgs false
set_option maxRecDepth 100000
theorem AMr : ∀ (xs b : List Edge), sel xs (gfl b xs) = B8 b xs := by
 intro xs
 induction xs with
 | nil => intro b; rfl
 | cons x xs ih =>
  intro b
  have := ih (b ++ [x])
  unfold sel at *
  rw [gfl, B8, List.zip_cons_cons, List.filter_cons]
  by_cases h : EB b x.1 x.2.1 = true
  ·simp [h, this]
  ·simp [h, this]
theorem AWe {N : Nat} {b xs : List Edge} (h : Fo N b) (hx : ∀ e ∈ xs, InE N e) : Fo N (b ++ B8 b xs) := by
 have h1 := Fw xs b hx
 have h2 : cc N (b ++ xs) = cc N (b ++ B8 b xs) := Ix fun a c => OV xs b
 unfold Fo at *
 rw [List.length_append]
 omega
theorem Gn {N : Nat} (hN : N ≤ 64) : 0 ≤ FF N := by
 have : ((List.range 65).all fun k => decide (0 ≤ FF k)) = true := by kernel_rfl
 exact of_decide_eq_true (List.all_eq_true.1 this N (by simp; omega))
noncomputable def grown (N : Nat) (ts : List Tie) (l : List Edge) : List Tie := SV ts (H0 N ts l) (gfl (trs ts ts.length) (H0 N ts l)) (H0 N ts l).length
theorem AQJ (N : Nat) (ts : List Tie) (l : List Edge) : (grown N ts l).length = ts.length + (H0 N ts l).length := AUe ..
theorem AQH (N : Nat) (ts : List Tie) (l : List Edge) : (trs (grown N ts l) (grown N ts l).length).Perm (trs ts ts.length ++ B8 (trs ts ts.length) (H0 N ts l)) := by
 have := AUc ts (xs := H0 N ts l) (bs := gfl (trs ts ts.length) (H0 N ts l)) (ANh _ _)
 rw [AMr] at this
 exact this
theorem AQI {N : Nat} (hN : N ≤ 64) {ts : List Tie} (ho : oks N ts) (l : List Edge) : oks N (grown N ts l) :=
 AUd ho (Gn hN) _ (AL1 N ts l) (fun e he => by
  obtain ⟨⟨a, b, c, _⟩, _⟩ := (Pv N ts l e).1 he
  exact ⟨a, b, c⟩) (fun e he => ((Pv N ts l e).1 he).2)
theorem AQk {N : Nat} (hN : N ≤ 64) (ts : List Tie) (l : List Edge) : ∀ e ∈ H0 N ts l, InE N e := fun e he => ATZ (AUL hN ts l e he)
theorem ATm {N : Nat} (hN : N ≤ 64) {ts : List Tie} (h : Fo N (trs ts ts.length)) (l : List Edge) : Fo N (trs (grown N ts l) (grown N ts l).length) :=
 (AWe h (AQk hN ts l)).perm (AQH N ts l).symm
structure RG2 (N : Nat) (ts : List Tie) : Prop where
 h1 : 1 ≤ N
 hN : N ≤ 64
 ht : ts.length ≤ 400
 oks : oks N ts
 fo : Fo N (trs ts ts.length)
theorem RG2.r21 {N : Nat} {ts : List Tie} (h : RG2 N ts) : Dt (((N : Int), (ts, ())), ()) = some (true, ()) := (AF3 h.h1 h.hN h.ht h.oks).2 h.fo
theorem RG2.lr {N : Nat} {ts : List Tie} (h : RG2 N ts) : ER (((N : Int), (ts, ())), ()) = some (true, ()) := by
 obtain ⟨b, h1, h2, _⟩ := Xd (N : Int) ts (by have := h.ht; omega)
 rw [h.r21] at h1
 cases h1
 exact h2
theorem APB (n : Int) (ts : List Tie) (hl : ts.length < 4611686018427387904) : (Dt ((n, (ts, ())), ()) = some (false, ()) ∧ ER ((n, (ts, ())), ()) = some (false, ())) ∨ ∃ N : Nat, n = (N : Int) ∧ RG2 N ts := by
 obtain ⟨b, h1, h2, h3⟩ := Xd n ts hl
 cases b
 ·exact .inl ⟨h1, h2⟩
 ·obtain ⟨N, rfl, q1, q2, q3, q4⟩ := h3 rfl
  exact .inr ⟨N, rfl, q1, q2, q3, q4, (AF3 q1 q2 q3 q4).1 h1⟩
theorem RG2.inE {N : Nat} {ts : List Tie} (h : RG2 N ts) : ∀ e ∈ ts.map ed, In (N : Int) e.1 ∧ In (N : Int) e.2.1 := AXI h.hN h.oks
theorem RG2.grown {N : Nat} {ts : List Tie} (h : RG2 N ts) {l : List Edge} (hf : ts.length + (H0 N ts l).length ≤ 400) : RG2 N (grown N ts l) :=
 ⟨h.h1, h.hN, by rw [AQJ]; exact hf, AQI h.hN h.oks l, ATm h.hN h.fo l⟩
theorem AJS {N : Nat} (h1 : 1 ≤ N) (hN : N ≤ 64) (l : List Edge) (hs : l.length < 1073741824) (ha : ∀ e ∈ l, In (N : Int) e.1 ∧ In (N : Int) e.2.1) : UR ((N : Int), l, ()) = some ((cc N l : Int), 0, ()) := by
 obtain ⟨out, e0, hc⟩ := AB7 (N : Int) l ⟨by omega, by omega⟩ hs ha
 have ho : out.length = N := by have := hc.len; omega
 rw [Zd, NW]
 simp only [e0]
 have e := CQ (step := EG) (fun i (a : Nat) => ((0 : Int), (a : Int), out, AQ out, (i : Int), ())) (List.range N) (fun k a => .inl (if out.getD k 0 = (k : Int) then a + 1 else a)) (fun a => .inl ((0 : Int), (a : Int), ())) (fun i a => a ≤ i) (by simp; omega)
  (fun i x a hi hx ha => by
   refine ⟨fun m' h' => ?_, fun r h' => (by cases h')⟩
   cases h'
   have := Cq hx
   subst this
   rw [List.length_range] at hi
   constructor
   ·rw [EG, AP, ho, AL, decide_eq_true hi]
    simp only [DH 0 (show x < out.length by omega), HY, Av]
    rw [AM (by omega), AM (by omega)]
    by_cases h : out.getD x 0 = (x : Int)
    ·rw [decide_eq_true h, if_pos h]
    ·rw [decide_eq_false h, if_neg h]
   ·split <;> omega)
  (fun a _ => by rw [EG, List.length_range, AP, ho, AL, decide_eq_false (by omega)]) 0 (Nat.le_refl _)
 have e' : AR EG many ((0 : Int), (0 : Int), out, AQ out, (0 : Int), ()) = _ := e
 simp only [e']
 rw [BB (fun k a => if out.getD k 0 = (k : Int) then a + 1 else a), AQV (fun k => out.getD k 0 = (k : Int)), Nat.zero_add]
 have := AL2 h1 hN hc
 unfold cnt at this
 rw [this]
end Go.Pev.Pl
end
section
namespace Go.Pev.Pl
open Tok
set_option linter.unusedSimpArgs false
set_option maxRecDepth 100000
def QE (u v : Int) (t : Tie) : Bool := decide (t.1 = min u v ∧ t.2.1 = max u v)
theorem ALa {N : Nat} {ts : List Tie} (h : RG2 N ts) (u v : Int) : Io (((N : Int), (ts, ())), u, v, ()) = some (if ts.any (QE u v) then ((ts.findIdx (QE u v) : Nat) : Int) else -1, ()) := by
 have ht := h.ht
 rw [AAP, OH]
 simp only [h.r21, Bool.not_true]
 have e := OG (step := Ed) (fun i => (u, v, (N : Int), ts, (i : Int), ())) ts (QE u v) (fun i => .inl ((i : Int), ())) (.inr (.inl ())) (by omega)
  (fun i x hi hx => by
   rw [Ed, AP, AL, decide_eq_true hi]
   simp only [AY hx, ADC, ADD, Av]
   rw [AM (by omega)]
   unfold QE
   by_cases h1 : x.1 = min u v
   ·by_cases h2 : x.2.1 = max u v
    ·rw [decide_eq_true h1, decide_eq_true h2, decide_eq_true (show x.1 = min u v ∧ x.2.1 = max u v from ⟨h1, h2⟩)]
     rfl
    ·rw [decide_eq_true h1, decide_eq_false h2, decide_eq_false (fun h : x.1 = min u v ∧ x.2.1 = max u v => h2 h.2)]
     rfl
   ·rw [decide_eq_false h1, decide_eq_false (fun h : x.1 = min u v ∧ x.2.1 = max u v => h1 h.1)]
    rfl)
  (by rw [Ed, AP, AL, decide_eq_false (by omega)])
 have e' : AR Ed many (u, v, (N : Int), ts, (0 : Int), ()) = _ := e
 rw [e']
 by_cases ha : ts.any (QE u v) = true
 ·rw [if_pos ha, if_pos ha]
 ·rw [if_neg ha, if_neg ha]
theorem AT7 {N : Nat} {ts : List Tie} (ho : oks N ts) {t : Tie} (hm : t ∈ ts) : ts.any (QE t.1 t.2.1) = true ∧ ∃ k, ts.findIdx (QE t.1 t.2.1) = k ∧ k < ts.length ∧ ts[k]? = some t := by
 obtain ⟨hv, hp⟩ := (Kw N ts).1 ho
 obtain ⟨_, hlt, _⟩ := hv t hm
 have hself : QE t.1 t.2.1 t = true := by
  unfold QE
  rw [Int.min_eq_left (by omega), Int.max_eq_right (by omega)]
  simp
 refine ⟨List.any_eq_true.2 ⟨t, hm, hself⟩, _, rfl, List.findIdx_lt_length.2 ⟨t, hm, hself⟩, ?_⟩
 have hk : ts.findIdx (QE t.1 t.2.1) < ts.length := List.findIdx_lt_length.2 ⟨t, hm, hself⟩
 have hg := List.findIdx_getElem (xs := ts) (p := QE t.1 t.2.1) (w := hk)
 rw [List.getElem?_eq_getElem hk]
 obtain ⟨j, hj, rfl⟩ := List.getElem_of_mem hm
 generalize ts.findIdx (QE ts[j].1 ts[j].2.1) = k at hk hg
 unfold QE at hg
 rw [Int.min_eq_left (by omega), Int.max_eq_right (by omega), decide_eq_true_iff] at hg
 rw [List.pairwise_iff_getElem] at hp
 unfold ahead at hp
 rcases Nat.lt_trichotomy j k with h | h | h
 ·have := hp j k hj hk h; omega
 ·subst h; rfl
 ·have := hp k j hk hj h; omega
end Go.Pev.Pl
end
end
