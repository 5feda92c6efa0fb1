/- A part of the proofs of this seat: T23b T24a PlnC KE KF KG KH U24a U24b U24c U24d U23a U23b U23c U23d U23e U24e G24bP1 G24bP2 G24bP3. -/
import Derived.Test.YtaamkoofmojajaaGreatP852f81f39d
import Derived.KernelRfl
import Derived.Test.YtaamkoofmojajaaGreatProg
set_option linter.unusedVariables false
set_option linter.unusedSimpArgs false
set_option linter.unusedSectionVars false
section
namespace Go.Pev.Pl
set_option linter.unusedSectionVars false
theorem Fo.AWx {N : Nat} {l : List Edge} {e : Edge} (h : Fo N (l ++ [e])) (hl : ∀ x ∈ l, InE N x) (he : InE N e) : ¬ Con l e.1 e.2.1 := by
 intro hc
 have h1 := ALX (N := N) (l := l) he
 rw [if_pos ((BH _ _ _).2 hc)] at h1
 have h2 := AfQ l hl
 unfold Fo at h
 rw [List.length_append, List.length_singleton] at h
 omega
theorem Pw {N : Nat} {O : List Tie} (h : ∀ x ∈ O, InE N (ed x)) (k : Int) : ∀ e ∈ trk O k, InE N e := by
 intro e he
 obtain ⟨t, h1, _, _, rfl⟩ := CW.1 he
 exact h t h1
theorem BY (A B : List Tie) (k : Int) : trk (A ++ B) k = trk A k ++ trk B k := by
 unfold trk; rw [List.filter_append, List.map_append]
theorem SN (S : Int → Bool) (top i : Int) (A : List Tie) (k : Int) : trk (A.map (rO S top i)) k = trk A k :=
 AHc k (Ac6 S top i) (AJJ S top i) A fun t _ h => by rw [ASw h]
structure Snd (N : Nat) (top : Int) (O : List Tie) : Prop where
 lvl : ∀ x ∈ O, 0 ≤ x.2.2.1 ∧ x.2.2.1 ≤ top
 ins : ∀ x ∈ O, InE N (ed x)
 fo : Fo N (trk O 0)
 lie : ∀ x ∈ O, x.2.2.2.1 = false → Con (trk O x.2.2.1) x.1 x.2.1
 halv : ∀ k : Nat, (k : Int) ≤ top → ∀ v : Nat, v < N → csz N (trk O k) v ≤ max 1 (N / 2 ^ k)
structure IK (N : Nat) (top : Int) (t : Edge) (j : Int) (O : List Tie) : Prop where
 lvl : ∀ x ∈ O, 0 ≤ x.2.2.1 ∧ x.2.2.1 ≤ top
 ins : ∀ x ∈ O, InE N (ed x)
 it : InE N t
 fo : Fo N (trk O 0 ++ [t])
 lie1 : ∀ x ∈ O, x.2.2.2.1 = false → j ≤ x.2.2.1 → Con (trk O x.2.2.1) x.1 x.2.1
 lie2 : ∀ x ∈ O, x.2.2.2.1 = false → x.2.2.1 < j → Con (trk O x.2.2.1 ++ [t]) x.1 x.2.1
 halv : ∀ k : Nat, (k : Int) ≤ top → ∀ v : Nat, v < N → csz N (trk O k) v ≤ max 1 (N / 2 ^ k)
 halt : ∀ k : Nat, (k : Int) < j → (k : Int) ≤ top → ∀ v : Nat, v < N → csz N (trk O k ++ [t]) v ≤ max 1 (N / 2 ^ k)
structure MA (N : Nat) (t : Edge) (i : Nat) (O : List Tie) (S : Int → Bool) (c : Nat) : Prop where
 cN : c < N
 at_ : t.1 = (c : Int) ∨ t.2.1 = (c : Int)
 side : ∀ w : Nat, w < N → (S (w : Int) = true ↔ Con (trk O i) (c : Int) (w : Int))
 less : 2 * csz N (trk O i) (c : Int) ≤ csz N (trk O i) t.1 + csz N (trk O i) t.2.1
section
variable {N : Nat} {top : Int} {t : Edge} {O : List Tie} {S : Int → Bool} {i c : Nat}
theorem MA.closed (hL : MA N t i O S c) (hi : ∀ x ∈ O, InE N (ed x)) : ∀ a b, Con (trk O i) a b → S a = S b := by
 intro a b h
 rcases Con.within (I := fun a => 0 ≤ a ∧ a < (N : Int)) (fun e he => Pw hi i e he) h with rfl | ⟨⟨a1, a2⟩, b1, b2⟩
 ·rfl
 ·obtain ⟨u, rfl⟩ := Int.eq_ofNat_of_zero_le a1
  obtain ⟨v, rfl⟩ := Int.eq_ofNat_of_zero_le b1
  have h1 := hL.side u (by omega)
  have h2 := hL.side v (by omega)
  rw [Bool.eq_iff_iff, h1, h2]
  exact ⟨fun q => q.trans h, fun q => q.trans h.symm⟩
theorem MA.AXL (hL : MA N t i O S c) : S (c : Int) = true := (hL.side c hL.cN).2 (.refl _)
theorem MA.con (hL : MA N t i O S c) {a b : Int} (ia : 0 ≤ a ∧ a < (N : Int)) (ib : 0 ≤ b ∧ b < (N : Int)) (ha : S a = true) (hb : S b = true) : Con (trk O i) a b := by
 obtain ⟨u, rfl⟩ := Int.eq_ofNat_of_zero_le ia.1
 obtain ⟨v, rfl⟩ := Int.eq_ofNat_of_zero_le ib.1
 exact ((hL.side u (by omega)).1 ha).symm.trans ((hL.side v (by omega)).1 hb)
variable (hG : IK N top t ((i : Int) + 1) O) (hit : (i : Int) ≤ top) (hL : MA N t i O S c)
include hG
theorem IK.apart (k : Nat) : ¬ Con (trk O (k : Int)) t.1 t.2.1 := fun h => hG.fo.AWx (Pw hG.ins 0) hG.it (h.sub (G1 (by omega)))
include hit hL
theorem IK.half (hi1 : (i : Int) + 1 ≤ top) : csz N (trk O i) (c : Int) ≤ N / 2 ^ (i + 1) := by
 obtain ⟨⟨a1, a2⟩, b1, b2⟩ := hG.it
 obtain ⟨u, hu⟩ := Int.eq_ofNat_of_zero_le a1
 have hj := AfJ (N := N) (hG.apart i)
 have hh := hG.halt i (by omega) hit u (by omega)
 rw [← hu, hj] at hh
 have hp := AhO (N := N) (l := trk O i) hL.cN
 have hl := hL.less
 have e : N / 2 ^ (i + 1) = N / 2 ^ i / 2 := by rw [Nat.pow_succ, Nat.div_div_eq_div_mul]
 rw [e]
 omega
theorem IK.Ahj (k : Nat) (hk : (k : Int) ≤ top) (v : Nat) (hv : v < N) : csz N (trk (O.map (rT S top i)) k) v ≤ max 1 (N / 2 ^ k) := by
 have hS := hL.closed hG.ins
 have hl : ∀ x ∈ O, x.2.2.1 ≤ top := fun x hx => (hG.lvl x hx).2
 rcases Nat.lt_trichotomy k (i + 1) with h | rfl | h
 ·rw [B2 (by omega) hit]; exact hG.halv k hk v hv
 ·cases hsv : S (v : Int)
  ·refine Nat.le_trans (UN fun w hw hc => ?_) (hG.halv (i + 1) hk v hv)
   have := AQW hS hit (a := (v : Int)) (b := (w : Int)) (by simpa using hc) hsv
   simpa using this
  ·have hle : csz N (trk (O.map (rT S top i)) ((i + 1 : Nat) : Int)) v ≤ csz N (trk O i) (c : Int) := UN fun w hw hc => by
    have h1 := hc.sub (G1 (ts := O.map (rT S top i)) (show (i : Int) ≤ ((i + 1 : Nat) : Int) by omega))
    rw [B2 (Int.le_refl _) hit] at h1
    exact ((hL.side v hv).1 hsv).trans h1
   have := hG.half hit hL (by omega)
   omega
 ·rw [AMY (by omega)]; exact hG.halv k hk v hv
omit hL
theorem AAf {x : Tie} (hx : x ∈ O.map (rT S top i)) (h : x.2.2.2.1 = false) : x ∈ O := by
 obtain ⟨y, hy, rfl⟩ := List.mem_map.1 hx
 rw [Mq] at h
 rw [Hs h]; exact hy
include hL
theorem IK.ABx {x : Tie} (hx : x ∈ O) (h1 : x.2.2.1 = (i : Int)) (h2 : both S x = true) : Con (trk (O.map (rT S top i)) (min top (x.2.2.1 + 1))) x.1 x.2.1 := by
 have hS := hL.closed hG.ins
 unfold both at h2
 rw [Bool.and_eq_true] at h2
 have hc := hL.con (hG.ins x hx).1 (hG.ins x hx).2 h2.1 h2.2
 by_cases hi1 : (i : Int) + 1 ≤ top
 ·rw [h1, Int.min_eq_right hi1]
  exact AfL hS (fun x hx => (hG.lvl x hx).2) hi1 hc h2.1
 ·rw [h1, Int.min_eq_left (by omega), show top = (i : Int) by omega]
  have := B2 (O := O) (S := S) (top := top) (i := (i : Int)) (k := (i : Int)) (Int.le_refl _) hit
  rw [show top = (i : Int) by omega] at this
  rw [this]; exact hc
theorem IK.next (hno : ∀ x ∈ O.map (rT S top i), x.2.2.2.1 = false → x.2.2.1 = (i : Int) → ¬ El S x) : IK N top t (i : Int) ((O.map (rT S top i)).map (rO S top i)) := by
 have hS := hL.closed hG.ins
 have hl : ∀ x ∈ O, x.2.2.1 ≤ top := fun x hx => (hG.lvl x hx).2
 have hmem : ∀ x ∈ (O.map (rT S top i)).map (rO S top i), ∃ y ∈ O, x = rO S top i (rT S top i y) := fun x hx => by
  obtain ⟨z, hz, rfl⟩ := List.mem_map.1 hx
  obtain ⟨y, hy, rfl⟩ := List.mem_map.1 hz
  exact ⟨y, hy, rfl⟩
 have hlv : ∀ y ∈ O, y.2.2.1 ≤ (rO S top i (rT S top i y)).2.2.1 ∧ (rO S top i (rT S top i y)).2.2.1 ≤ top := fun y hy => by
  have h1 := AJI (S := S) (i := (i : Int)) (hl y hy)
  have h2 := ASx (S := S) (i := (i : Int)) h1.2
  omega
 have hoth : ∀ x ∈ (O.map (rT S top i)).map (rO S top i), x.2.2.2.1 = false → ∃ y ∈ O, y.2.2.2.1 = false ∧ x = rO S top i y := fun x hx h => by
  obtain ⟨y, hy, rfl⟩ := hmem x hx
  rw [AJJ, Mq] at h
  exact ⟨y, hy, h, by rw [Hs h]⟩
 refine ⟨fun x hx => ?_, fun x hx => ?_, hG.it, ?_, fun x hx h hj => ?_, fun x hx h hj => ?_, fun k hk v hv => ?_, fun k hk1 hk2 v hv => ?_⟩
 ·obtain ⟨y, hy, rfl⟩ := hmem x hx
  have := hlv y hy
  have := (hG.lvl y hy).1
  omega
 ·obtain ⟨y, hy, rfl⟩ := hmem x hx
  rw [Ac6, AAg]; exact hG.ins y hy
 ·rw [SN, B2 (by omega) hit]; exact hG.fo
 ·obtain ⟨y, hy, hf, rfl⟩ := hoth x hx h
  rw [SN]
  by_cases hr : y.2.2.1 = (i : Int) ∧ both S y = true
  ·have he : rO S top i y = IX top y := by unfold rO; rw [if_pos ⟨hf, hr.1, hr.2⟩]
   rw [he]
   exact hG.ABx hit hL hy hr.1 hr.2
  ·have he : rO S top i y = y := by unfold rO; rw [if_neg (fun q => hr ⟨q.2.1, q.2.2⟩)]
   rw [he] at hj ⊢
   by_cases hi : y.2.2.1 = (i : Int)
   ·have hnb : ¬ both S y = true := fun q => hr ⟨hi, q⟩
    have hne := hno y (List.mem_map.2 ⟨y, hy, Hs hf⟩) hf hi
    have h2 := hG.lie2 y hy hf (by omega)
    rw [hi, B2 (Int.le_refl _) hit]
    rw [hi] at h2
    unfold El at hne
    have hne := Classical.not_not.1 hne
    have hfalse : S y.1 = false ∧ S y.2.1 = false := by
     unfold both at hnb
     rw [← hne] at hnb ⊢
     cases hsy : S y.1
     ·exact ⟨rfl, rfl⟩
     ·rw [hsy] at hnb; exact absurd rfl hnb
    rw [Con.snoc] at h2
    rcases h2 with h2 | ⟨q1, q2⟩ | ⟨q1, q2⟩
    ·exact h2
    ·have e1 := hS _ _ q1
     have e2 := hS _ _ q2
     rcases hL.at_ with hc | hc
     ·rw [hc, hL.AXL, hfalse.1] at e1; cases e1
     ·rw [hc, hL.AXL, hfalse.2] at e2; cases e2
    ·have e1 := hS _ _ q1
     have e2 := hS _ _ q2
     rcases hL.at_ with hc | hc
     ·rw [hc, hL.AXL, hfalse.2] at e2; cases e2
     ·rw [hc, hL.AXL, hfalse.1] at e1; cases e1
   ·exact (hG.lie1 y hy hf (by omega)).sub (Jc hl _)
 ·obtain ⟨y, hy, hf, rfl⟩ := hoth x hx h
  have h1 := ASx (S := S) (i := (i : Int)) (hl y hy)
  have he : rO S top i y = y := by unfold rO; rw [if_neg (fun q => by have := q.2.1; omega)]
  rw [he] at hj ⊢
  rw [SN, B2 (by omega) hit]
  exact hG.lie2 y hy hf (by omega)
 ·rw [SN]; exact hG.Ahj hit hL k hk v hv
 ·rw [SN, B2 (by omega) hit]; exact hG.halt k (by omega) hk2 v hv
theorem IK.found {A B : List Tie} {x : Tie} (hsp : O.map (rT S top i) = A ++ x :: B) (hf : x.2.2.2.1 = false) (hi : x.2.2.1 = (i : Int)) (hx : El S x) :
  Snd N top (A.map (rO S top i) ++ Cp x :: B) ∧ Con (trk (A.map (rO S top i) ++ Cp x :: B) 0) t.1 t.2.1 := by
 have hS := hL.closed hG.ins
 have hl : ∀ x ∈ O, x.2.2.1 ≤ top := fun x hx => (hG.lvl x hx).2
 have hxM : x ∈ O.map (rT S top i) := by rw [hsp]; simp
 have hxO : x ∈ O := AAf hG hit hxM hf
 have hAm : ∀ y ∈ A, y ∈ O.map (rT S top i) := fun y hy => by rw [hsp]; simp [hy]
 have hBm : ∀ y ∈ B, y ∈ O.map (rT S top i) := fun y hy => by rw [hsp]; simp [hy]
 have hml : ∀ y ∈ O.map (rT S top i), 0 ≤ y.2.2.1 ∧ y.2.2.1 ≤ top := fun y hy => by
  obtain ⟨z, hz, rfl⟩ := List.mem_map.1 hy
  have := AJI (S := S) (i := (i : Int)) (hl z hz)
  have := (hG.lvl z hz).1
  omega
 have hme : ∀ y ∈ O.map (rT S top i), InE N (ed y) := fun y hy => by
  obtain ⟨z, hz, rfl⟩ := List.mem_map.1 hy
  rw [AAg]; exact hG.ins z hz
 have hxt : trk [x] = fun _ => [] := by
  funext k
  unfold trk
  rw [List.filter_cons, hf]
  rfl
 have hat : ∀ k, trk [Cp x] k = if k ≤ (i : Int) then [ed x] else [] := by
  intro k
  unfold trk
  have q1 : (Cp x).2.2.1 = (i : Int) := hi
  have q2 : (Cp x).2.2.2.1 = true := rfl
  rw [List.filter_cons, q1, q2]
  by_cases hk : k ≤ (i : Int)
  ·rw [if_pos hk, decide_eq_true hk]; rfl
  ·rw [if_neg hk, decide_eq_false hk]; rfl
 have hM : ∀ k, trk (O.map (rT S top i)) k = trk A k ++ trk B k := by
  intro k
  rw [hsp, show A ++ x :: B = A ++ ([x] ++ B) from rfl, BY, BY, hxt, List.nil_append]
 have hO' : ∀ k, trk (A.map (rO S top i) ++ Cp x :: B) k = trk A k ++ ((if k ≤ (i : Int) then [ed x] else []) ++ trk B k) := by
  intro k
  rw [show A.map (rO S top i) ++ Cp x :: B = A.map (rO S top i) ++ ([Cp x] ++ B) from rfl, BY, BY, SN, hat]
 have hsup : ∀ k, ∀ e ∈ trk (O.map (rT S top i)) k, e ∈ trk (A.map (rO S top i) ++ Cp x :: B) k := by
  intro k e he
  rw [hM] at he
  rw [hO']
  rcases List.mem_append.1 he with he | he
  ·exact List.mem_append.2 (.inl he)
  ·exact List.mem_append.2 (.inr (List.mem_append.2 (.inr he)))
 have hxin : ∀ k, k ≤ (i : Int) → ed x ∈ trk (A.map (rO S top i) ++ Cp x :: B) k := by
  intro k hk
  rw [hO', if_pos hk]; simp
 have h2 := hG.lie2 x hxO hf (by omega)
 rw [hi] at h2
 have ht : Con (trk O i ++ [ed x]) t.1 t.2.1 := by
  have up : ∀ {a b : Int}, Con (trk O i) a b → Con (trk O i ++ [ed x]) a b := fun c => c.sub fun e he => List.mem_append.2 (.inl he)
  have hxe : Con (trk O i ++ [ed x]) x.1 x.2.1 := .edge (l := trk O i ++ [ed x]) (ed x) (by simp)
  rw [Con.snoc] at h2
  rcases h2 with h2 | ⟨q1, q2⟩ | ⟨q1, q2⟩
  ·exact absurd (hS _ _ h2) hx
  ·exact ((up q1).symm.trans hxe).trans (up q2).symm
  ·exact ((up q2).trans hxe.symm).trans (up q1)
 have ht' : ∀ k, k ≤ (i : Int) → Con (trk (A.map (rO S top i) ++ Cp x :: B) k) t.1 t.2.1 := by
  intro k hk
  refine ht.sub fun e he => ?_
  rcases List.mem_append.1 he with he | he
  ·exact G1 hk _ (hsup _ _ (Jc hl _ _ he))
  ·rw [List.mem_singleton] at he; subst he; exact hxin k hk
 refine ⟨⟨fun y hy => ?_, fun y hy => ?_, ?_, fun y hy h => ?_, fun k hk v hv => ?_⟩, ht' 0 (by omega)⟩
 ·rcases List.mem_append.1 hy with hy | hy
  ·obtain ⟨z, hz, rfl⟩ := List.mem_map.1 hy
   have h1 := hml z (hAm z hz)
   have := ASx (S := S) (i := (i : Int)) h1.2
   omega
  ·rcases List.mem_cons.1 hy with rfl | hy
   ·exact hG.lvl x hxO
   ·exact hml y (hBm y hy)
 ·rcases List.mem_append.1 hy with hy | hy
  ·obtain ⟨z, hz, rfl⟩ := List.mem_map.1 hy
   rw [Ac6]; exact hme z (hAm z hz)
  ·rcases List.mem_cons.1 hy with rfl | hy
   ·exact hG.ins x hxO
   ·exact hme y (hBm y hy)
 ·rw [hO', if_pos (by omega)]
  have hM0 := hM 0
  rw [B2 (by omega) hit] at hM0
  have hp : (trk A 0 ++ ([ed x] ++ trk B 0)).Perm (trk O 0 ++ [ed x]) := by
   rw [hM0, List.append_assoc]
   exact List.Perm.append_left _ List.perm_append_comm
  refine Fo.perm ?_ hp.symm
  have hfo := hG.fo
  have hcc : cc N (trk O 0 ++ [ed x]) = cc N (trk O 0 ++ [t]) := PS fun a b => by
   have m0 := G1 (ts := O) (show (0 : Int) ≤ (i : Int) by omega)
   constructor
   ·intro c
    refine c.cut fun e he => ?_
    rcases List.mem_append.1 he with he | he
    ·exact .edge _ (List.mem_append.2 (.inl he))
    ·rw [List.mem_singleton] at he; subst he
     refine h2.sub fun e he => ?_
     rcases List.mem_append.1 he with he | he
     ·exact List.mem_append.2 (.inl (m0 _ he))
     ·exact List.mem_append.2 (.inr he)
   ·intro c
    refine c.cut fun e he => ?_
    rcases List.mem_append.1 he with he | he
    ·exact .edge _ (List.mem_append.2 (.inl he))
    ·rw [List.mem_singleton] at he; subst he
     refine ht.sub fun e he => ?_
     rcases List.mem_append.1 he with he | he
     ·exact List.mem_append.2 (.inl (m0 _ he))
     ·exact List.mem_append.2 (.inr he)
  unfold Fo at hfo ⊢
  rw [hcc, List.length_append] at *
  exact hfo
 ·-- others
  have key : ∀ y : Tie, y ∈ O → y.2.2.2.1 = false → Con (trk (A.map (rO S top i) ++ Cp x :: B) y.2.2.1) y.1 y.2.1 := by
   intro y hy h
   by_cases hle : y.2.2.1 ≤ (i : Int)
   ·refine (hG.lie2 y hy h (by omega)).cut fun e he => ?_
    rcases List.mem_append.1 he with he | he
    ·exact .edge _ (hsup _ _ (Jc hl _ _ he))
    ·rw [List.mem_singleton] at he; subst he; exact ht' _ hle
   ·exact (hG.lie1 y hy h (by omega)).sub fun e he => hsup _ _ (Jc hl _ _ he)
  rcases List.mem_append.1 hy with hy | hy
  ·obtain ⟨z, hz, rfl⟩ := List.mem_map.1 hy
   rw [AJJ] at h
   have hzO := AAf hG hit (hAm z hz) h
   by_cases hr : z.2.2.1 = (i : Int) ∧ both S z = true
   ·have he : rO S top i z = IX top z := by unfold rO; rw [if_pos ⟨h, hr.1, hr.2⟩]
    rw [he]
    exact (hG.ABx hit hL hzO hr.1 hr.2).sub (hsup _)
   ·have he : rO S top i z = z := by unfold rO; rw [if_neg (fun q => hr ⟨q.2.1, q.2.2⟩)]
    rw [he]
    exact key z hzO h
  ·rcases List.mem_cons.1 hy with rfl | hy
   ·cases h
   ·exact key y (AAf hG hit (hBm y hy) h) h
 ·by_cases hki : (k : Int) ≤ (i : Int)
  ·refine Nat.le_trans (UN fun w hw hc => ?_) (hG.halt k (by omega) hk v hv)
   refine hc.cut fun e he => ?_
   rw [hO', if_pos hki] at he
   have hMk := hM (k : Int)
   rw [B2 hki hit] at hMk
   rcases List.mem_append.1 he with he | he
   ·exact .edge _ (List.mem_append.2 (.inl (by rw [hMk]; simp [he])))
   ·rcases List.mem_append.1 he with he | he
    ·rw [List.mem_singleton] at he; subst he
     refine h2.sub fun e he => ?_
     rcases List.mem_append.1 he with he | he
     ·exact List.mem_append.2 (.inl (G1 hki _ he))
     ·exact List.mem_append.2 (.inr he)
    ·exact .edge _ (List.mem_append.2 (.inl (by rw [hMk]; simp [he])))
  ·have : trk (A.map (rO S top i) ++ Cp x :: B) (k : Int) = trk (O.map (rT S top i)) (k : Int) := by
    rw [hO', if_neg hki, hM]; rfl
   rw [this]
   exact hG.Ahj hit hL k hk v hv
end
theorem Snd.Aia {N : Nat} {top : Int} {P Q : List Tie} {t : Tie} (h : Snd N top (P ++ t :: Q)) (ht : t.2.2.2.1 = true) : IK N top (ed t) (t.2.2.1 + 1) (P ++ Q) := by
 have hm : ∀ x ∈ P ++ Q, x ∈ P ++ t :: Q := fun x hx => by
  rcases List.mem_append.1 hx with hx | hx
  ·simp [hx]
  ·simp [hx]
 have htk : ∀ k, trk (P ++ t :: Q) k = trk P k ++ ((if k ≤ t.2.2.1 then [ed t] else []) ++ trk Q k) := by
  intro k
  rw [show P ++ t :: Q = P ++ ([t] ++ Q) from rfl, BY, BY]
  congr 2
  unfold trk
  rw [List.filter_cons, ht]
  by_cases hk : k ≤ t.2.2.1
  ·rw [if_pos hk, decide_eq_true hk]; rfl
  ·rw [if_neg hk, decide_eq_false hk]; rfl
 have hmem : ∀ k e, e ∈ trk (P ++ t :: Q) k → e ∈ trk (P ++ Q) k ++ [ed t] := by
  intro k e he
  rw [htk] at he
  rw [BY]
  rcases List.mem_append.1 he with he | he
  ·simp [he]
  ·rcases List.mem_append.1 he with he | he
   ·split at he
    ·rw [List.mem_singleton] at he; subst he; simp
    ·cases he
   ·simp [he]
 have hsub : ∀ k e, e ∈ trk (P ++ Q) k → e ∈ trk (P ++ t :: Q) k := by
  intro k e he
  rw [BY] at he
  rw [htk]
  rcases List.mem_append.1 he with he | he
  ·simp [he]
  ·simp [he]
 have hlt := h.lvl t (by simp)
 refine ⟨fun x hx => h.lvl x (hm x hx), fun x hx => h.ins x (hm x hx), h.ins t (by simp), ?_, fun x hx hf hj => ?_, fun x hx hf hj => (h.lie x (hm x hx) hf).sub (hmem _), fun k hk v hv => Nat.le_trans (UN fun w hw c => c.sub (hsub k)) (h.halv k hk v hv), fun k hk1 hk2 v hv => Nat.le_trans (UN fun w hw c => ?_) (h.halv k hk2 v hv)⟩
 ·refine h.fo.perm ?_
  rw [htk, if_pos hlt.1, BY, List.append_assoc]
  exact List.Perm.append_left _ List.perm_append_comm
 ·have := h.lie x (hm x hx) hf
  rw [htk, if_neg (by omega)] at this
  rw [BY]; exact this
 ·refine c.sub fun e he => ?_
  rcases List.mem_append.1 he with he | he
  ·exact hsub k e he
  ·rw [List.mem_singleton] at he; subst he
   rw [htk, if_pos (by omega)]; simp
theorem IK.end {N : Nat} {top : Int} {t : Edge} {O : List Tie} (h : IK N top t 0 O) : Snd N top O ∧ ¬ Con (trk O 0) t.1 t.2.1 := by
 refine ⟨⟨h.lvl, h.ins, h.fo.front (Pw h.ins 0) (fun e he => by rw [List.mem_singleton] at he; subst he; exact h.it), fun x hx hf => h.lie1 x hx hf (h.lvl x hx).1, h.halv⟩, h.fo.AWx (Pw h.ins 0) h.it⟩
theorem Snd.other {N : Nat} {top : Int} {P Q : List Tie} {t : Tie} (h : Snd N top (P ++ t :: Q)) (ht : t.2.2.2.1 = false) : Snd N top (P ++ Q) := by
 have hm : ∀ x ∈ P ++ Q, x ∈ P ++ t :: Q := fun x hx => by
  rcases List.mem_append.1 hx with hx | hx
  ·simp [hx]
  ·simp [hx]
 have htk : ∀ k, trk (P ++ t :: Q) k = trk (P ++ Q) k := by
  intro k
  rw [show P ++ t :: Q = P ++ ([t] ++ Q) from rfl, BY, BY, BY]
  congr 1
  unfold trk
  rw [List.filter_cons, ht]
  rfl
 refine ⟨fun x hx => h.lvl x (hm x hx), fun x hx => h.ins x (hm x hx), by rw [← htk]; exact h.fo, fun x hx hf => by rw [← htk]; exact h.lie x (hm x hx) hf, fun k hk v hv => by rw [← htk]; exact h.halv k hk v hv⟩
theorem Snd.span {N : Nat} {top : Int} {O : List Tie} (h : Snd N top O) (a b : Int) : Con (O.map ed) a b ↔ Con (trk O 0) a b := by
 constructor
 ·intro c
  refine c.cut fun e he => ?_
  obtain ⟨x, hx, rfl⟩ := List.mem_map.1 he
  cases hf : x.2.2.2.1
  ·exact (h.lie x hx hf).sub (G1 (h.lvl x hx).1)
  ·exact .edge _ (CW.2 ⟨x, hx, hf, (h.lvl x hx).1, rfl⟩)
 ·intro c
  refine c.sub fun e he => ?_
  obtain ⟨x, h1, _, _, rfl⟩ := CW.1 he
  exact List.mem_map.2 ⟨x, h1, rfl⟩
end Go.Pev.Pl
end
section
namespace Go.Pev.Pl
set_option linter.unusedSectionVars false
theorem Snd.below {N : Nat} {top : Nat} {O : List Tie} (h : Snd N (top : Int) O) (hN : N / 2 ^ top ≤ 1) {x : Tie} (hx : x ∈ O) (hne : x.1 ≠ x.2.1) : x.2.2.1 < (top : Int) := by
 have hl := h.lvl x hx
 refine Classical.byContradiction fun hn => ?_
 have he : x.2.2.1 = (top : Int) := by omega
 obtain ⟨⟨a1, a2⟩, b1, b2⟩ := h.ins x hx
 obtain ⟨u, hu⟩ := Int.eq_ofNat_of_zero_le a1
 obtain ⟨v, hv⟩ := Int.eq_ofNat_of_zero_le b1
 have hc : Con (trk O (top : Int)) x.1 x.2.1 := by
  cases hf : x.2.2.2.1
  ·have := h.lie x hx hf
   rw [he] at this; exact this
  ·exact .edge (l := trk O (top : Int)) (ed x) (CW.2 ⟨x, hx, hf, by omega, rfl⟩)
 have hu' : x.1 = (u : Int) := hu
 have hv' : x.2.1 = (v : Int) := hv
 rw [hu', hv'] at hc hne
 have h2 := AhN (N := N) (a := u) (b := v) (by omega) (by omega) (by omega) hc
 have h3 := h.halv top (Int.le_refl _) u (by omega)
 omega
theorem Snd.grown {N : Nat} {top : Int} {O O' : List Tie} {come : List Edge} {new : List Tie} (h : Snd N top O) (ht : 0 ≤ top) (hp : O'.Perm (O ++ new)) (hc : ∀ e ∈ come, InE N e)
  (hn : ∀ x ∈ new, x.2.2.1 = 0 ∧ ed x ∈ come) (htr : (trk O' 0).Perm (trk O 0 ++ JF (trk O 0) come)) : Snd N top O' := by
 have hmem : ∀ x, x ∈ O' ↔ x ∈ O ∨ x ∈ new := fun x => by rw [hp.mem_iff, List.mem_append]
 have hk : ∀ k : Int, 0 < k → ∀ e, e ∈ trk O' k ↔ e ∈ trk O k := by
  intro k hk e
  rw [CW, CW]
  constructor
  ·rintro ⟨t, h1, h2, h3, h4⟩
   rcases (hmem t).1 h1 with h1 | h1
   ·exact ⟨t, h1, h2, h3, h4⟩
   ·have := (hn t h1).1; omega
  ·rintro ⟨t, h1, h2, h3, h4⟩
   exact ⟨t, (hmem t).2 (.inl h1), h2, h3, h4⟩
 have hsup : ∀ k : Int, ∀ e ∈ trk O k, e ∈ trk O' k := fun k e he => by
  obtain ⟨t, h1, h2, h3, h4⟩ := CW.1 he
  exact CW.2 ⟨t, (hmem t).2 (.inl h1), h2, h3, h4⟩
 refine ⟨fun x hx => ?_, fun x hx => ?_, ?_, fun x hx hf => ?_, fun k hkt v hv => ?_⟩
 ·rcases (hmem x).1 hx with hx | hx
  ·exact h.lvl x hx
  ·have := (hn x hx).1; omega
 ·rcases (hmem x).1 hx with hx | hx
  ·exact h.ins x hx
  ·exact hc _ (hn x hx).2
 ·refine Fo.perm ?_ htr.symm
  have h1 := JO come (trk O 0) hc
  have h2 : cc N (trk O 0 ++ come) = cc N (trk O 0 ++ JF (trk O 0) come) := PS fun a b => ADD come (trk O 0)
  have h3 := h.fo
  unfold Fo at *
  rw [List.length_append]
  omega
 ·rcases (hmem x).1 hx with hx | hx
  ·exact (h.lie x hx hf).sub (hsup _)
  ·obtain ⟨h0, he⟩ := hn x hx
   rw [h0, X1 fun e => htr.mem_iff, ← ADD]
   exact .edge (l := trk O 0 ++ come) (ed x) (List.mem_append.2 (.inr he))
 ·by_cases hk0 : k = 0
  ·subst hk0
   have : csz N (trk O' ((0 : Nat) : Int)) (v : Int) ≤ N := by
    unfold csz
    have := List.countP_le_length (p := fun (w : Nat) => Ca (trk O' ((0 : Nat) : Int)) (v : Int) (w : Int)) (l := List.range N)
    rw [List.length_range] at this
    exact this
   simp only [Nat.pow_zero, Nat.div_one]
   omega
  ·exact Nat.le_trans (UN fun w hw c => c.sub fun e he => (hk k (by omega) e).1 he) (h.halv k hkt v hv)
end Go.Pev.Pl
end
section
namespace Go.Pev.Pl
end Go.Pev.Pl
end
section
section
namespace Go.Pev.Pl
set_option linter.unusedSimpArgs false
structure UF (N : Nat) (s : List Int) (c : Int → Int) : Prop where
 len : s.length = N
 lo : ∀ k, k < N → 0 ≤ s.getD k 0 ∧ s.getD k 0 ≤ (k : Int)
 par : ∀ k, k < N → c (s.getD k 0) = c (k : Int)
 root : ∀ k, k < N → s.getD k 0 = (k : Int) → c (k : Int) = (k : Int)
 le : ∀ k, k < N → 0 ≤ c (k : Int) ∧ c (k : Int) ≤ (k : Int)
theorem Zv {s : List Int} {k : Nat} (x : Int) (h : k < s.length) (j : Nat) : (s.set k x).getD j 0 = if j = k then x else s.getD j 0 := by
 simp only [List.getD_eq_getElem?_getD]
 by_cases hj : j = k
 ·subst hj
  rw [List.getElem?_set_self h, if_pos rfl]; rfl
 ·rw [List.getElem?_set_ne (Ne.symm hj), if_neg hj]
theorem UF.idem {N : Nat} {s : List Int} {c : Int → Int} (h : UF N s c) : ∀ (m k : Nat), k ≤ m → k < N → c (c (k : Int)) = c (k : Int) := by
 intro m
 induction m with
 | zero =>
  intro k hk hN
  have := h.le k hN
  have e : c (k : Int) = (k : Int) := by omega
  rw [e, e]
 | succ m ih =>
  intro k hk hN
  have h1 := h.lo k hN
  by_cases hr : s.getD k 0 = (k : Int)
  ·have e := h.root k hN hr
   rw [e, e]
  ·obtain ⟨j, hj⟩ := Int.eq_ofNat_of_zero_le h1.1
   have hp := h.par k hN
   rw [hj] at hp
   rw [← hp]
   exact ih j (by omega) (by omega)
theorem UF.top {N : Nat} {s : List Int} {c : Int → Int} (h : UF N s c) {k : Nat} (hk : k < N) : s.getD (c (k : Int)).toNat 0 = c (k : Int) := by
 have h1 := h.le k hk
 obtain ⟨j, hj⟩ := Int.eq_ofNat_of_zero_le h1.1
 have hi := h.idem k k (Nat.le_refl _) hk
 rw [hj] at hi ⊢
 have hjN : j < N := by omega
 have h2 := h.lo j hjN
 have hp := h.par j hjN
 obtain ⟨i, hi'⟩ := Int.eq_ofNat_of_zero_le h2.1
 rw [hi'] at hp
 have h3 := h.le i (by omega)
 show s.getD j 0 = _
 omega
theorem OR {N : Nat} {c : Int → Int} (hN : N ≤ 64) : ∀ {s : List Int} (_ : UF N s c) {v : Nat} (_ : v < N), ∃ s', OS (s, (v : Int), ()) = some (s', c (v : Int), ()) ∧ UF N s' c ∧ ∀ j, j < N → s.getD j 0 = c (j : Int) → s'.getD j 0 = c (j : Int) := by
 intro s hs v hv
 rw [AFn, QE]
 obtain ⟨r, e, h⟩ := AUP (step := Iz)
  (fun st => ∃ (s' : List Int) (w : Nat), st = (s', (w : Int), ()) ∧ w < N ∧ UF N s' c ∧ c (w : Int) = c (v : Int) ∧ ∀ j, j < N → s.getD j 0 = c (j : Int) → s'.getD j 0 = c (j : Int))
  (fun r => ∃ s', r = .inl (s', c (v : Int), ()) ∧ UF N s' c ∧ ∀ j, j < N → s.getD j 0 = c (j : Int) → s'.getD j 0 = c (j : Int)) (fun st => st.2.1.toNat)
  (fun st hst => by
   obtain ⟨s', w, rfl, hw, hu, hc, hk⟩ := hst
   have hl := hu.len
   have h1 := hu.lo w hw
   rw [Iz]
   simp only [Bf 0 (show w < s'.length by omega), D0, Ai]
   by_cases hr : s'.getD w 0 = (w : Int)
   ·right
    rw [decide_eq_true hr]
    refine ⟨_, rfl, s', ?_, hu, hk⟩
    rw [← hc, hu.root w hw hr]
   ·left
    rw [decide_eq_false hr]
    obtain ⟨p, hp⟩ := Int.eq_ofNat_of_zero_le h1.1
    have hpN : p < N := by omega
    have h2 := hu.lo p hpN
    obtain ⟨q, hq⟩ := Int.eq_ofNat_of_zero_le h2.1
    have hqN : q < N := by omega
    simp only [Bool.not_false, hp, Bf 0 (show p < s'.length by omega), D0, PI, hq]
    have hlen : (s'.set w (q : Int)).length = N := by rw [List.length_set]; exact hl
    have hset := fun j => Zv (q : Int) (show w < s'.length by omega) j
    simp only [Bf 0 (show w < (s'.set w (q : Int)).length by omega), hset, if_true]
    refine ⟨_, rfl, ⟨_, q, rfl, hqN, ?_, ?_, ?_⟩, ?_⟩
    ·refine ⟨hlen, fun k hk => ?_, fun k hk => ?_, fun k hk hkk => ?_, hu.le⟩
     ·rw [hset]
      by_cases e : k = w
      ·rw [if_pos e]; omega
      ·rw [if_neg e]; exact hu.lo k hk
     ·rw [hset]
      by_cases e : k = w
      ·subst e
       rw [if_pos rfl, ← hq, hu.par p hpN, ← hp, hu.par k hw]
      ·rw [if_neg e]; exact hu.par k hk
     ·rw [hset] at hkk
      by_cases e : k = w
      ·subst e; rw [if_pos rfl] at hkk; omega
      ·rw [if_neg e] at hkk; exact hu.root k hk hkk
    ·rw [← hc, ← hq, hu.par p hpN, ← hp, hu.par w hw]
    ·intro j hj hjc
     rw [hset]
     by_cases e : j = w
     ·subst e
      rw [if_pos rfl]
      have := hk j hj hjc
      have ht := hu.top hj
      rw [← this, hp, Int.toNat_natCast] at ht
      rw [← hq, ht, ← hp, this]
     ·rw [if_neg e]; exact hk j hj hjc
    ·show (q : Int).toNat < (w : Int).toNat
     omega)
  (s, (v : Int), ()) ⟨s, v, rfl, hv, hs, rfl, fun _ _ h => h⟩ (by simp only [many]; omega)
 obtain ⟨s', rfl, h2, h3⟩ := h
 rw [e]
 exact ⟨s', rfl, h2, h3⟩
theorem Qs (a b : Int) : CF a b = min a b := by unfold CF; split <;> omega
theorem Qt (a b : Int) : imax a b = max a b := by unfold imax; split <;> omega
theorem BO {N i x : Nat} (h : (List.range N)[i]? = some x) : x = i := by
 rw [List.getElem?_eq_some_iff] at h
 obtain ⟨h1, h2⟩ := h
 simpa using h2.symm
def ANw (c : Int → Int) (u v : Int) : Int → Int := fun x => if c x = max (c u) (c v) then min (c u) (c v) else c x
theorem AYm {N : Nat} (hN : N ≤ 64) {c : Int → Int} {s : List Int} (hs : UF N s c) {u v : Nat} (hu : u < N) (hv : v < N) : ∃ s' b, ANQ (s, (u : Int), (v : Int), ()) = some (s', b, ()) ∧ UF N s' (ANw c u v) := by
 obtain ⟨s1, e1, g1, _⟩ := OR hN hs hu
 obtain ⟨s2, e2, g2, _⟩ := OR hN g1 hv
 rw [ANP, Xg]
 simp only [e1, e2, Qs, Qt]
 have lu := g2.le u hu
 have lv := g2.le v hv
 have iu := g2.idem u u (Nat.le_refl _) hu
 have iv := g2.idem v v (Nat.le_refl _) hv
 obtain ⟨M, hM⟩ := Int.eq_ofNat_of_zero_le (show 0 ≤ max (c (u : Int)) (c (v : Int)) by omega)
 obtain ⟨m, hm⟩ := Int.eq_ofNat_of_zero_le (show 0 ≤ min (c (u : Int)) (c (v : Int)) by omega)
 have hMN : M < N := by omega
 have hmN : m < N := by omega
 have hl := g2.len
 have cM : c (M : Int) = (M : Int) := by
  rw [← hM]
  rcases Int.le_total (c (u : Int)) (c (v : Int)) with h | h
  ·rw [Int.max_eq_right h]; exact iv
  ·rw [Int.max_eq_left h]; exact iu
 have cm : c (m : Int) = (m : Int) := by
  rw [← hm]
  rcases Int.le_total (c (u : Int)) (c (v : Int)) with h | h
  ·rw [Int.min_eq_left h]; exact iu
  ·rw [Int.min_eq_right h]; exact iv
 rw [hM, hm]
 simp only [Bf 0 (show M < s2.length by omega), PI]
 refine ⟨_, _, rfl, ?_⟩
 have hset := fun j => Zv (m : Int) (show M < s2.length by omega) j
 have hre : ∀ x, ANw c u v x = if c x = (M : Int) then (m : Int) else c x := by
  intro x; unfold ANw; rw [hM, hm]
 refine ⟨by rw [List.length_set]; exact hl, fun k hk => ?_, fun k hk => ?_, fun k hk hkk => ?_, fun k hk => ?_⟩
 ·rw [hset]
  by_cases e : k = M
  ·rw [if_pos e]; omega
  ·rw [if_neg e]; exact g2.lo k hk
 ·rw [hset, hre, hre]
  by_cases e : k = M
  ·subst e
   rw [if_pos rfl, if_pos cM, cm]
   split <;> rfl
  ·rw [if_neg e, g2.par k hk]
 ·rw [hset] at hkk
  rw [hre]
  by_cases e : k = M
  ·subst e
   rw [if_pos rfl] at hkk
   rw [if_pos cM]; exact hkk
  ·rw [if_neg e] at hkk
   have hr := g2.root k hk hkk
   rw [hr, if_neg (by omega)]
 ·rw [hre]
  have := g2.le k hk
  split <;> omega
theorem ASL (N : Nat) (h : N ≤ 64) : S0 ((N : Int), ()) = some ((List.range N).map fun (k : Nat) => (k : Int), ()) := by
 rw [AF2, QM]
 have f1 : JI (N : Int) = true := (JH _).2 (by omega)
 rw [f1, CY, decide_eq_true (Nat.le_refl _)]
 simp only [Bool.and_self]
 have hz : JK (AJ (N : Int)) (0 : Int) = List.replicate N 0 := by simp [JK, AJ]
 rw [hz]
 have e := B9 (step := Et) (fun i (a : List Int) => (a, (N : Int), (i : Int), ())) (List.range N) (fun (k : Nat) a => .inl (a.set k (k : Int))) (fun a => .inl (a, ())) (fun i a => a.length = N) (by simp; omega)
  (fun i x a hi hx ha => by
   refine ⟨fun m' h' => ?_, fun r h' => by cases h'⟩
   cases h'
   have := BO hx
   subst this
   rw [List.length_range] at hi
   rw [Et, AM, decide_eq_true hi]
   simp only [Bf 0 (show x < a.length by omega), PI]
   rw [AN (by omega)]
   exact ⟨rfl, by rw [List.length_set]; exact ha⟩)
  (fun a _ => by rw [Et, List.length_range, AM, decide_eq_false (by omega)]) (List.replicate N 0) (by simp)
 have e' : AT Et many (List.replicate N 0, (N : Int), (0 : Int), ()) = _ := e
 rw [show AO (List.replicate N (0 : Int)) = (N : Int) by simp [AO]]
 rw [e', BA]
 have key : ∀ M, M ≤ N → (List.range M).foldl (fun (a : List Int) (k : Nat) => a.set k (k : Int)) (List.replicate N 0) = ((List.range M).map fun (k : Nat) => (k : Int)) ++ List.replicate (N - M) 0 := by
  intro M
  induction M with
  | zero => intro _; simp
  | succ M ih =>
   intro hM
   rw [List.range_succ, List.foldl_append, ih (by omega)]
   simp only [List.foldl_cons, List.foldl_nil, List.map_append, List.map_cons, List.map_nil]
   rw [List.set_append_right _ _ (by simp)]
   obtain ⟨d, hd⟩ : ∃ d, N - M = d + 1 := ⟨N - M - 1, by omega⟩
   rw [hd, show N - (M + 1) = d by omega]
   simp [List.replicate_succ]
 rw [key N (Nat.le_refl _)]
 simp
theorem AfZ (N : Nat) : UF N ((List.range N).map fun (k : Nat) => (k : Int)) (fun x => x) := by
 have hg : ∀ k, k < N → ((List.range N).map fun (k : Nat) => (k : Int)).getD k 0 = (k : Int) := by
  intro k hk
  simp [List.getD_eq_getElem?_getD, hk]
 exact ⟨by simp, fun k hk => by rw [hg k hk]; omega, fun k hk => hg k hk, fun k hk _ => rfl, fun k hk => by omega⟩
def AHE (N : Nat) (c : Int → Int) (l : List Edge) : Prop := ∀ a b, In (N : Int) a → In (N : Int) b → (c a = c b ↔ Con l a b)
theorem AHE.snoc {N : Nat} {c : Int → Int} {l : List Edge} {e : Edge} (h : AHE N c l) (h1 : In (N : Int) e.1) (h2 : In (N : Int) e.2.1) : AHE N (ANw c e.1 e.2.1) (l ++ [e]) := by
 intro a b ia ib
 rw [Con.snoc, ← h a b ia ib, ← h a _ ia h1, ← h _ b h2 ib, ← h a _ ia h2, ← h _ b h1 ib]
 unfold ANw
 generalize c a = x
 generalize c b = y
 generalize c e.1 = u
 generalize c e.2.1 = v
 split <;> split <;> omega
theorem AK9 {N : Nat} (h1 : 1 ≤ N) (hN : N ≤ 64) (l : List Edge) (hs : l.length < 1073741824) (ha : ∀ e ∈ l, In (N : Int) e.1 ∧ In (N : Int) e.2.1) :
  ∃ s bs c, Lt (l, (List.range N).map (fun (k : Nat) => (k : Int)), ()) = some (s, bs, ()) ∧ UF N s c ∧ AHE N c l := by
 rw [Wh, KD]
 have key : ∀ (m i n : Nat) (s : List Int) (bs : List Bool) (c : Int → Int), l.length - i = m → i ≤ l.length → m < n → bs.length = i → UF N s c → AHE N c (l.take i) →
   ∃ s' bs' c', AW DF n (s, bs, l, AO l, (i : Int), ()) = some (.inl (s', bs', ())) ∧ UF N s' c' ∧ AHE N c' l := by
  intro m
  induction m with
  | zero =>
   intro i n s bs c hm hi hn hb hu ht
   obtain ⟨n, rfl⟩ : ∃ k, n = k + 1 := ⟨n - 1, by omega⟩
   have e : i = l.length := by omega
   subst e
   rw [AW, DF, AL, AM, decide_eq_false (by omega)]
   rw [List.take_length] at ht
   exact ⟨s, bs, c, rfl, hu, ht⟩
  | succ m ih =>
   intro i n s bs c hm hi hn hb hu ht
   obtain ⟨n, rfl⟩ : ∃ k, n = k + 1 := ⟨n - 1, by omega⟩
   have hi' : i < l.length := by omega
   have hx : l[i]? = some l[i] := by simp [hi']
   obtain ⟨i1, i2⟩ := ha l[i] (List.getElem_mem hi')
   obtain ⟨_, _, a1, a2⟩ := i1
   obtain ⟨_, _, b1, b2⟩ := i2
   obtain ⟨u, hu'⟩ := Int.eq_ofNat_of_zero_le a1
   obtain ⟨v, hv'⟩ := Int.eq_ofNat_of_zero_le b1
   obtain ⟨s', b, e, g⟩ := AYm hN hu (u := u) (v := v) (by omega) (by omega)
   rw [AW, DF, AL, AM, decide_eq_true hi']
   simp only [Ac hx, hu', hv', e, AL]
   rw [A2 (by rw [hb]; simp; omega), AN (by omega)]
   refine ih (i + 1) n s' _ _ (by omega) (by omega) (by omega) (by rw [Bv, List.length_append, hb]; rfl) g ?_
   rw [List.take_add_one, hx]
   have := ht.snoc (e := l[i]) (ha l[i] (List.getElem_mem hi')).1 (ha l[i] (List.getElem_mem hi')).2
   rw [hu', hv'] at this
   exact this
 obtain ⟨s, bs, c, e, hu, ht⟩ := key l.length 0 many _ [] _ rfl (Nat.zero_le _) (by simp only [many]; omega) rfl (AfZ N) (by
  intro a b _ _
  rw [List.take_zero]
  exact ⟨fun h => by have h : a = b := h; rw [h]; exact .refl _, fun h => h.nil⟩)
 have e' : AT DF many ((List.range N).map (fun (k : Nat) => (k : Int)), [], l, AO l, (0 : Int), ()) = _ := (Aj _ _ _).trans e
 rw [e']
 exact ⟨s, bs, c, rfl, hu, ht⟩
theorem ASI (n : Int) (l : List Edge) (hn : Sz n) (hs : l.length < 1073741824) (ha : ∀ e ∈ l, In n e.1 ∧ In n e.2.1) : Sx (n, l, ()) = some (0, ()) := by
 rw [AFx, QL]
 obtain ⟨h1, h2⟩ := hn
 rw [Ah, decide_eq_false (by omega), Ah, decide_eq_false (by omega)]
 have e := DC (step := Es) (fun i => (n, l, AO l, (i : Int), ())) l (fun _ => false) (fun _ => .inl (10, ())) (.inr (.inl ())) (by omega)
  (fun i x hi hx => by
   obtain ⟨⟨_, _, a1, a2⟩, ⟨_, _, b1, b2⟩⟩ := ha x (List.mem_of_getElem? hx)
   rw [Es, AL, AM, decide_eq_true hi]
   simp only [Ac hx, Qs, Qt]
   rw [Ah, decide_eq_false (by omega), An, decide_eq_false (by omega), AN (by omega)]
   rfl)
  (by rw [Es, AL, AM, decide_eq_false (by omega)])
 have e' : AT Es many (n, l, AO l, (0 : Int), ()) = _ := e
 rw [e']
 simp
theorem AIz (n : Int) (l : List Edge) (hn : Sz n) (hs : l.length < 1073741824) (ha : ∀ e ∈ l, In n e.1 ∧ In n e.2.1) : ∃ out, LD (n, l, ()) = some (out, 0, ()) ∧ Kd n l out := by
 have hn' := hn
 obtain ⟨h1, h2⟩ := hn
 obtain ⟨N, rfl⟩ := Int.eq_ofNat_of_zero_le (show 0 ≤ n by omega)
 rw [Vv, Jm]
 simp only [ASI _ l hn' hs ha, Ai]
 obtain ⟨s, bs, c, e, hu, ht⟩ := AK9 (N := N) (by omega) (by omega) l hs ha
 have ej : Sv ((List.range N).map (fun (k : Nat) => (k : Int)), l, ()) = some (s, bs, ()) := by
  rw [AFo, QF]; simp only [e]
 simp only [decide_true, Bool.not_true, ASL N (by omega), ej]
 have key : ∀ (m i k : Nat) (s : List Int), N - i = m → i ≤ N → m < k → UF N s c → (∀ j, j < i → s.getD j 0 = c (j : Int)) →
   ∃ s', AW Cz k (s, (N : Int), (i : Int), ()) = some (.inl (s', ())) ∧ UF N s' c ∧ ∀ j, j < N → s'.getD j 0 = c (j : Int) := by
  intro m
  induction m with
  | zero =>
   intro i k s hm hi hk hu hj
   obtain ⟨k, rfl⟩ : ∃ q, k = q + 1 := ⟨k - 1, by omega⟩
   have e : i = N := by omega
   subst e
   rw [AW, Cz, AM, decide_eq_false (by omega)]
   exact ⟨s, rfl, hu, hj⟩
  | succ m ih =>
   intro i k s hm hi hk hu hj
   obtain ⟨k, rfl⟩ : ∃ q, k = q + 1 := ⟨k - 1, by omega⟩
   have hi' : i < N := by omega
   obtain ⟨s', e, g, hkeep⟩ := OR (by omega) hu hi'
   have hl := g.len
   rw [AW, Cz, AM, decide_eq_true hi']
   simp only [e, Bf 0 (show i < s'.length by omega), PI]
   rw [AN (by omega)]
   have hset := fun j => Zv (c (i : Int)) (show i < s'.length by omega) j
   have ci := g.idem i i (Nat.le_refl _) hi'
   refine ih (i + 1) k _ (by omega) (by omega) (by omega) ⟨by rw [List.length_set]; exact hl, fun q hq => ?_, fun q hq => ?_, fun q hq hqq => ?_, g.le⟩ fun j hj' => ?_
   ·rw [hset]
    by_cases e : q = i
    ·subst e; rw [if_pos rfl]; exact g.le q hq
    ·rw [if_neg e]; exact g.lo q hq
   ·rw [hset]
    by_cases e : q = i
    ·subst e; rw [if_pos rfl]; exact ci
    ·rw [if_neg e]; exact g.par q hq
   ·rw [hset] at hqq
    by_cases e : q = i
    ·subst e; rw [if_pos rfl] at hqq; exact hqq
    ·rw [if_neg e] at hqq; exact g.root q hq hqq
   ·rw [hset]
    by_cases e : j = i
    ·subst e; rw [if_pos rfl]
    ·rw [if_neg e]; exact hkeep j (by omega) (hj j (by omega))
 obtain ⟨o, e, g, ho⟩ := key N 0 many s rfl (Nat.zero_le _) (by simp only [many]; omega) hu (fun j hj => by omega)
 have e' : AT Cz many (s, (N : Int), (0 : Int), ()) = _ := (Aj _ _ _).trans e
 rw [AL, hu.len, e']
 refine ⟨o, rfl, ?_⟩
 have hcl : ∀ a, In (N : Int) a → cl o a = c a ∧ (0 ≤ c a ∧ c a ≤ a) ∧ c (c a) = c a := by
  rintro a ⟨_, _, a1, a2⟩
  obtain ⟨k, rfl⟩ := Int.eq_ofNat_of_zero_le a1
  refine ⟨?_, g.le k (by omega), g.idem k k (Nat.le_refl _) (by omega)⟩
  unfold cl
  rw [Int.toNat_natCast]
  exact ho k (by omega)
 have isin : ∀ a, In (N : Int) a → In (N : Int) (c a) := by
  intro a ia
  obtain ⟨_, h, _⟩ := hcl a ia
  obtain ⟨q1, q2, a1, a2⟩ := ia
  exact ⟨q1, q2, by omega, by omega⟩
 refine ⟨by rw [g.len], fun a b ia ib => ?_, fun a ia => ?_, fun a ia => ?_, fun a b ia ib hc => ?_⟩
 ·rw [(hcl a ia).1, (hcl b ib).1]; exact ht a b ia ib
 ·rw [(hcl a ia).1]; exact isin a ia
 ·rw [(hcl a ia).1]
  exact (ht a (c a) ia (isin a ia)).1 (hcl a ia).2.2.symm
 ·rw [(hcl a ia).1, (ht a b ia ib).2 hc]
  exact (hcl b ib).2.1.2
end Go.Pev.Pl
end
section
namespace Go.Pev.Pl
set_option linter.unusedSimpArgs false
def sh (n : Int) : Prop := 0 ≤ n ∧ n ≤ 65535
instance (n : Int) : Decidable (sh n) := inferInstanceAs (Decidable (_ ∧ _))
def tw (n : Int) : List Int := [n / 256, n % 256]
theorem Aas {α β : Type} (g : β → α) : ∀ (xs : List β) (a : List α), xs.foldl (fun a x => a ++ [g x]) a = a ++ xs.map g := by
 intro xs
 induction xs with
 | nil => intro a; simp
 | cons x xs ih => intro a; rw [List.foldl_cons, ih]; simp
end Go.Pev.Pl
end
section
namespace Go.Pev.Pl
set_option linter.unusedSimpArgs false
abbrev Res := Int × Int × List Int × Unit
def val (r : Res) : Prop := (0 ≤ r.1 ∧ r.1 ≤ 255) ∧ sh r.2.1 ∧ sh (r.2.2.1.length : Int) ∧ ∀ x ∈ r.2.2.1, sh x
instance (r : Res) : Decidable (val r) := inferInstanceAs (Decidable (_ ∧ _ ∧ _ ∧ _))
def enc (r : Res) : List Int := r.1 :: (tw r.2.1 ++ (tw (r.2.2.1.length : Int) ++ r.2.2.1.flatMap tw))
end Go.Pev.Pl
end
section
namespace Go.Pev.Pl
set_option linter.unusedSimpArgs false
set_option maxRecDepth 100000
theorem Bb (a : Int) : ieq a a = true := by rw [HJ]; simp
end Go.Pev.Pl
end
section
namespace Go.Pev.Pl
open Go.RowKit Tok
section
variable {n : Int} {rings : List (List Int)}
theorem APl {l : List Edge} {out : List Int} (h : FC n rings l) (hc : Kd n l out) {A : List Int} {u : Int} (hA : A ∈ rings) (iu : In n u) (hu : u ∈ A) : hd A = cl out u := by
 have gA := h.fr.rg A hA
 have ih := NQ gA
 have hh := T7 gA.2.1
 have h1 : Con l u (hd A) := (h.sam u (hd A) iu ih).1 ⟨A, hA, hu, hh⟩
 have h2 := hc.least u (hd A) iu ih h1
 have h3 := hc.isin u iu
 obtain ⟨K, hK, k1, k2⟩ := (h.sam u _ iu h3).2 (hc.con u iu)
 have := h.fr.one hA hK iu.2.2.2 hu k1
 subst this
 have h4 := (EC gA.2.1).2 _ k2
 rw [gA.2.2.1] at h4
 have : hd A = A.headD 0 := rfl
 omega
end
end Go.Pev.Pl
end
section
namespace Go.Pev.Pl
set_option linter.unusedSimpArgs false
set_option maxRecDepth 100000
def F8 (n : Nat) : Int := ((@Ke idI ((n : Int), ())).getD (0, ())).1
theorem Aik : ((List.range 65).all fun k => decide (@Ke idI ((k : Int), ()) = some (F8 k, ()))) = true := by kernel_rfl
theorem AiU : ((List.range 65).all fun k => decide (@AEq idI ((k : Int), ()) = some (F8 k, ()))) = true := by kernel_rfl
theorem Md (n : Nat) (h : n ≤ 64) : Ke ((n : Int), ()) = some (F8 n, ()) := by
 rw [show Ke ((n : Int), ()) = @Ke idI ((n : Int), ()) from congrArg (fun i => @Ke i ((n : Int), ())) ABo]
 exact of_decide_eq_true (List.all_eq_true.1 Aik n (by simp; omega))
theorem Ql (n : Nat) (h : n ≤ 64) : AEq ((n : Int), ()) = some (F8 n, ()) := by
 rw [show AEq ((n : Int), ()) = @AEq idI ((n : Int), ()) from congrArg (fun i => @AEq i ((n : Int), ())) ABo]
 exact of_decide_eq_true (List.all_eq_true.1 AiU n (by simp; omega))
def AhR (a b : Int) : Int := if a < b then -1 else if b < a then 1 else 0
theorem ALF (a b : Int) : Fz (a, b, ()) = some (AhR a b, ()) := by
 rw [Lz, HZ]
 simp only [AJ5, ABV, Bb, Bool.not_true]
 unfold AhR
 rw [Ah, Ah]
 by_cases h : a < b
 ·rw [decide_eq_true h, if_pos h]
 ·rw [decide_eq_false h, if_neg h]
  by_cases h' : b < a
  ·rw [decide_eq_true h', if_pos h']
  ·rw [decide_eq_false h', if_neg h']
theorem Age (a b : Int) : orI ([a, b], ()) = some (if a = 0 then b else a, ()) := by
 rw [Adh, AWn]
 have e := DC (step := Oh) (fun i => (0, [a, b], AO [a, b], (i : Int), ())) [a, b] (fun x => !decide (x = 0)) (fun i => .inl ([a, b].getD i 0, ())) (.inr (.inl (0, ()))) (by simp)
  (fun i x hi hx => by
   rw [Oh, AL, AM, decide_eq_true hi]
   simp only [Ac hx, Ai]
   have hi2 : i < 2 := hi
   rw [AN (by omega)]
   have hg : [a, b].getD i 0 = x := by rw [List.getD_eq_getElem?_getD, hx]; rfl
   rw [hg]
   by_cases h : x = 0
   ·simp [h]
   ·simp [h])
  (by rw [Oh, AL, AM, decide_eq_false (by omega)])
 have e' : AT Oh many (0, [a, b], AO [a, b], (0 : Int), ()) = _ := e
 rw [e']
 by_cases h : a = 0
 ·by_cases h' : b = 0
  ·simp [h, h']
  ·simp [h, h', List.findIdx_cons]
 ·simp [h, List.findIdx_cons]
theorem AKN (p x : Tie) : ∃ y, JB (p, x, ()) = some (y, ()) ∧ ile 0 y = !decide (ahead p x) := by
 rw [WU, J6]
 simp only [ALF, Age]
 refine ⟨_, rfl, ?_⟩
 rw [An]
 by_cases h : ahead p x
 ·rw [decide_eq_true h]
  unfold ahead at h
  unfold AhR
  rw [decide_eq_false]; · rfl
  split <;> split <;> (try split) <;> omega
 ·rw [decide_eq_false h]
  unfold ahead at h
  unfold AhR
  rw [decide_eq_true]; · rfl
  split <;> split <;> (try split) <;> omega
def Km (N : Nat) (ts : List Tie) (i : Nat) : Prop :=
 0 ≤ (ts.getD i zT).1 ∧ (ts.getD i zT).1 < (ts.getD i zT).2.1 ∧ (ts.getD i zT).2.1 < (N : Int) ∧ 0 ≤ (ts.getD i zT).2.2.1 ∧ (ts.getD i zT).2.2.1 ≤ F8 N ∧ (i = 0 ∨ ahead (ts.getD (i - 1) zT) (ts.getD i zT))
instance (N : Nat) (ts : List Tie) (i : Nat) : Decidable (Km N ts i) := inferInstanceAs (Decidable (_ ∧ _ ∧ _ ∧ _ ∧ _ ∧ _))
def trs (ts : List Tie) (k : Nat) : List Edge := (List.range k).foldl (fun a i => if (ts.getD i zT).2.2.2.1 = true then a ++ [ed (ts.getD i zT)] else a) []
theorem AML {α β ρ : Type} (P : β → Prop) [DecidablePred P] (g : β → α → α) (fin : α → ρ) (rt : ρ) : ∀ (xs : List β) (a : α), walk (fun x a => if P x then .inl (g x a) else .inr rt) fin xs a = if ∀ x ∈ xs, P x then fin (xs.foldl (fun a x => g x a) a) else rt := by
 intro xs
 induction xs with
 | nil => intro a; simp [walk]
 | cons x xs ih =>
  intro a
  rw [walk]
  by_cases h : P x
  ·rw [if_pos h]
   simp only []
   rw [ih]
   simp [h]
  ·rw [if_neg h]
   simp [h]
theorem YS (ts : List Tie) (k : Nat) : trs ts (k + 1) = if (ts.getD k zT).2.2.2.1 = true then trs ts k ++ [ed (ts.getD k zT)] else trs ts k := by
 unfold trs
 rw [List.range_succ, List.foldl_append]
 rfl
theorem Pt (ts : List Tie) : ∀ k, (trs ts k).length ≤ k := by
 intro k
 induction k with
 | zero => exact Nat.le_refl _
 | succ k ih =>
  rw [YS]
  split
  ·rw [List.length_append]; simp; omega
  ·omega
theorem Afk (ts : List Tie) (e : Edge) : ∀ k, e ∈ trs ts k → ∃ i, i < k ∧ e = ed (ts.getD i zT) := by
 intro k
 induction k with
 | zero => intro h; simp [trs] at h
 | succ k ih =>
  intro h
  rw [YS] at h
  split at h
  ·rcases List.mem_append.1 h with h | h
   ·obtain ⟨i, h1, h2⟩ := ih h; exact ⟨i, by omega, h2⟩
   ·simp only [List.mem_singleton] at h; exact ⟨k, by omega, h⟩
  ·obtain ⟨i, h1, h2⟩ := ih h; exact ⟨i, by omega, h2⟩
def oks (N : Nat) (ts : List Tie) : Prop := ∀ i ∈ List.range ts.length, Km N ts i
instance (N : Nat) (ts : List Tie) : Decidable (oks N ts) := inferInstanceAs (Decidable (∀ i ∈ List.range ts.length, Km N ts i))
theorem APM (N : Nat) (hN : N ≤ 64) (ts : List Tie) (hs : ts.length ≤ 400) :
  AT DQ many ((N : Int), ts, F8 N, ts, AO ts, (0 : Int), ()) = some (if oks N ts then .inr (.inl ((N : Int), ts, ())) else .inl (false, ())) := by
 have e := B9 (step := DQ) (fun i (_ : Unit) => ((N : Int), ts, F8 N, ts, AO ts, (i : Int), ())) (List.range ts.length) (fun i a => if Km N ts i then .inl a else .inr (.inl (false, ()))) (fun _ => .inr (.inl ((N : Int), ts, ()))) (fun _ _ => True) (by simp; omega)
  (fun i x a hi hx _ => by
   have := BO hx
   subst this
   rw [List.length_range] at hi
   have step : DQ ((N : Int), ts, F8 N, ts, AO ts, (x : Int), ()) = if Km N ts x then some (.inl ((N : Int), ts, F8 N, ts, AO ts, ((x + 1 : Nat) : Int), ())) else some (.inr (.inl (false, ()))) := by
    rw [DQ, AL, AM, decide_eq_true hi]
    simp only [Bf zT hi]
    obtain ⟨t, ht⟩ : ∃ t, ts.getD x zT = t := ⟨_, rfl⟩
    have hk : Km N ts x ↔ (0 ≤ t.1 ∧ t.1 < t.2.1 ∧ t.2.1 < (N : Int) ∧ 0 ≤ t.2.2.1 ∧ t.2.2.1 ≤ F8 N ∧ (x = 0 ∨ ahead (ts.getD (x - 1) zT) t)) := by unfold Km; rw [ht]
    rw [ht]
    rw [Ah, An, An, Ah, Ah]
    by_cases h1 : t.1 < 0
    ·rw [decide_eq_true h1, if_neg (fun h => by obtain ⟨q1, q2, q3, q4, q5, _⟩ := hk.1 h; omega)]
    rw [decide_eq_false h1]
    by_cases h2 : t.2.1 ≤ t.1
    ·rw [decide_eq_true h2, if_neg (fun h => by obtain ⟨q1, q2, q3, q4, q5, _⟩ := hk.1 h; omega)]
    rw [decide_eq_false h2]
    by_cases h3 : (N : Int) ≤ t.2.1
    ·rw [decide_eq_true h3, if_neg (fun h => by obtain ⟨q1, q2, q3, q4, q5, _⟩ := hk.1 h; omega)]
    rw [decide_eq_false h3]
    by_cases h4 : t.2.2.1 < 0
    ·rw [decide_eq_true h4, if_neg (fun h => by obtain ⟨q1, q2, q3, q4, q5, _⟩ := hk.1 h; omega)]
    rw [decide_eq_false h4]
    by_cases h5 : F8 N < t.2.2.1
    ·rw [decide_eq_true h5, if_neg (fun h => by obtain ⟨q1, q2, q3, q4, q5, _⟩ := hk.1 h; omega)]
    rw [decide_eq_false h5]
    simp only []
    rw [AN (by omega), Ah]
    by_cases h6 : x = 0
    ·subst h6
     rw [decide_eq_false (by omega), if_pos (hk.2 ⟨by omega, by omega, by omega, by omega, by omega, .inl rfl⟩)]
    ·rw [decide_eq_true (by omega), Ag (by omega), show ((x : Int) - 1) = ((x - 1 : Nat) : Int) by omega]
     simp only [Bf zT (show x - 1 < ts.length by omega)]
     obtain ⟨y, ey, hy⟩ := AKN (ts.getD (x - 1) zT) t
     have ey' : JB (((ts.getD (x - 1) zT).1, ((ts.getD (x - 1) zT).2.1, ((ts.getD (x - 1) zT).2.2.1, ((ts.getD (x - 1) zT).2.2.2.1, ())))), (t.1, (t.2.1, (t.2.2.1, (t.2.2.2.1, ())))), ()) = some (y, ()) := ey
     simp only [ey', hy]
     by_cases h7 : ahead (ts.getD (x - 1) zT) t
     ·rw [decide_eq_true h7, if_pos (hk.2 ⟨by omega, by omega, by omega, by omega, by omega, .inr h7⟩)]
      rfl
     ·rw [decide_eq_false h7, if_neg (fun h => by rcases (hk.1 h).2.2.2.2.2 with h | h; exact h6 h; exact h7 h)]
      rfl
   by_cases h : Km N ts x
   ·rw [if_pos h] at step ⊢
    refine ⟨fun m' h' => ?_, fun r h' => (by cases h')⟩
    cases h'
    exact ⟨step, trivial⟩
   ·rw [if_neg h] at step ⊢
    refine ⟨fun m' h' => (by cases h'), fun r h' => ?_⟩
    cases h'
    exact step)
  (fun a _ => by rw [DQ, List.length_range, AL, AM, decide_eq_false (by omega)]) () trivial
 have e' : AT DQ many ((N : Int), ts, F8 N, ts, AO ts, (0 : Int), ()) = _ := e
 rw [e', AML (Km N ts) (fun _ a => a)]
 rfl
theorem QP (N : Nat) (hN : N ≤ 64) (ts : List Tie) (hs : ts.length ≤ 400) :
  AT CR many ((N : Int), ts, [], (0 : Int), ()) = some (if oks N ts then .inr (.inl ((N : Int), ts, trs ts ts.length, ())) else .inl (false, ())) := by
 have e := B9 (step := CR) (fun i (a : List Edge) => ((N : Int), ts, a, (i : Int), ())) (List.range ts.length) (fun i a => if Km N ts i then .inl (if (ts.getD i zT).2.2.2.1 = true then a ++ [ed (ts.getD i zT)] else a) else .inr (.inl (false, ()))) (fun a => .inr (.inl ((N : Int), ts, a, ()))) (fun i a => a.length ≤ i) (by simp; omega)
  (fun i x a hi hx ha => by
   have := BO hx
   subst this
   rw [List.length_range] at hi
   have step : CR ((N : Int), ts, a, (x : Int), ()) = if Km N ts x then some (.inl ((N : Int), ts, if (ts.getD x zT).2.2.2.1 = true then a ++ [ed (ts.getD x zT)] else a, ((x + 1 : Nat) : Int), ())) else some (.inr (.inl (false, ()))) := by
    rw [CR, AL, AM, decide_eq_true hi]
    simp only [Bf zT hi, Md N hN]
    obtain ⟨t, ht⟩ : ∃ t, ts.getD x zT = t := ⟨_, rfl⟩
    have hk : Km N ts x ↔ (0 ≤ t.1 ∧ t.1 < t.2.1 ∧ t.2.1 < (N : Int) ∧ 0 ≤ t.2.2.1 ∧ t.2.2.1 ≤ F8 N ∧ (x = 0 ∨ ahead (ts.getD (x - 1) zT) t)) := by unfold Km; rw [ht]
    rw [ht]
    rw [Ah, An, An, Ah, Ah]
    by_cases h1 : t.1 < 0
    ·rw [decide_eq_true h1, if_neg (fun h => by obtain ⟨q1, q2, q3, q4, q5, _⟩ := hk.1 h; omega)]
    rw [decide_eq_false h1]
    by_cases h2 : t.2.1 ≤ t.1
    ·rw [decide_eq_true h2, if_neg (fun h => by obtain ⟨q1, q2, q3, q4, q5, _⟩ := hk.1 h; omega)]
    rw [decide_eq_false h2]
    by_cases h3 : (N : Int) ≤ t.2.1
    ·rw [decide_eq_true h3, if_neg (fun h => by obtain ⟨q1, q2, q3, q4, q5, _⟩ := hk.1 h; omega)]
    rw [decide_eq_false h3]
    by_cases h4 : t.2.2.1 < 0
    ·rw [decide_eq_true h4, if_neg (fun h => by obtain ⟨q1, q2, q3, q4, q5, _⟩ := hk.1 h; omega)]
    rw [decide_eq_false h4]
    by_cases h5 : F8 N < t.2.2.1
    ·rw [decide_eq_true h5, if_neg (fun h => by obtain ⟨q1, q2, q3, q4, q5, _⟩ := hk.1 h; omega)]
    rw [decide_eq_false h5]
    simp only [AL]
    have hfit : fits ((a.length : Int) + (([(t.1, t.2.1, ())] : List Edge).length : Int)) = true := A2 (by simp; omega)
    rw [AN (by omega), Ah]
    by_cases h6 : x = 0
    ·subst h6
     rw [decide_eq_false (by omega), if_pos (hk.2 ⟨by omega, by omega, by omega, by omega, by omega, .inl rfl⟩)]
     cases ht4 : t.2.2.2.1
     ·simp
     ·simp only [hfit]
      simp [ed, Aq]
    ·rw [decide_eq_true (by omega), Ag (by omega), show ((x : Int) - 1) = ((x - 1 : Nat) : Int) by omega]
     simp only [Bf zT (show x - 1 < ts.length by omega), Ai]
     generalize ts.getD (x - 1) zT = p at hk ⊢
     rw [Ah, An]
     by_cases h7 : t.1 < p.1
     ·rw [decide_eq_true h7, if_neg (fun h => by rcases (hk.1 h).2.2.2.2.2 with h | h | h <;> omega)]
     rw [decide_eq_false h7]
     by_cases h8 : p.1 = t.1
     ·rw [decide_eq_true h8]
      by_cases h9 : t.2.1 ≤ p.2.1
      ·rw [decide_eq_true h9, if_neg (fun h => by rcases (hk.1 h).2.2.2.2.2 with h | h | h <;> omega)]
      rw [decide_eq_false h9, if_pos (hk.2 ⟨by omega, by omega, by omega, by omega, by omega, .inr (.inr ⟨h8, by omega⟩)⟩)]
      cases ht4 : t.2.2.2.1
      ·simp
      ·simp only [hfit]
       simp [ed, Aq]
     ·rw [decide_eq_false h8, if_pos (hk.2 ⟨by omega, by omega, by omega, by omega, by omega, .inr (.inl (by omega))⟩)]
      cases ht4 : t.2.2.2.1
      ·simp
      ·simp only [hfit]
       simp [ed, Aq]
   by_cases h : Km N ts x
   ·rw [if_pos h] at step ⊢
    refine ⟨fun m' h' => ?_, fun r h' => (by cases h')⟩
    cases h'
    refine ⟨step, ?_⟩
    split
    ·rw [List.length_append]; simp; omega
    ·omega
   ·rw [if_neg h] at step ⊢
    refine ⟨fun m' h' => (by cases h'), fun r h' => ?_⟩
    cases h'
    exact step)
  (fun a _ => by rw [CR, List.length_range, AL, AM, decide_eq_false (by omega)]) [] (Nat.le_refl _)
 have e' : AT CR many ((N : Int), ts, [], (0 : Int), ()) = _ := e
 rw [e', AML (Km N ts) (fun i a => if (ts.getD i zT).2.2.2.1 = true then a ++ [ed (ts.getD i zT)] else a)]
 rfl
end Go.Pev.Pl
end
end
section
section
namespace Go.Pev.Pl
set_option linter.unusedSimpArgs false
set_option maxRecDepth 100000
theorem AWu {N : Nat} {ts : List Tie} (hN : N ≤ 64) {i : Nat} (h : Km N ts i) : In (N : Int) (ed (ts.getD i zT)).1 ∧ In (N : Int) (ed (ts.getD i zT)).2.1 := by
 obtain ⟨q1, q2, q3, _⟩ := h
 exact ⟨⟨by omega, by omega, q1, by show (ts.getD i zT).1 < _; omega⟩, ⟨by omega, by omega, by show 0 ≤ (ts.getD i zT).2.1; omega, q3⟩⟩
theorem YT {N : Nat} {ts : List Tie} (hN : N ≤ 64) (h : oks N ts) : ∀ e ∈ trs ts ts.length, In (N : Int) e.1 ∧ In (N : Int) e.2.1 := by
 intro e he
 obtain ⟨i, hi, rfl⟩ := Afk ts e _ he
 exact AWu hN (h i (by simp [hi]))
theorem AiO {N : Nat} {ts : List Tie} (hN : N ≤ 64) (h : oks N ts) : ∀ e ∈ ts.map ed, In (N : Int) e.1 ∧ In (N : Int) e.2.1 := by
 intro e he
 obtain ⟨t, ht, rfl⟩ := List.mem_map.1 he
 obtain ⟨i, hi, rfl⟩ := List.getElem_of_mem ht
 have := AWu hN (h i (by simp [hi]))
 simpa [hi] using this
theorem AT2 {N : Nat} (ts : List Tie) (hs : ts.length ≤ 400) (h : oks N ts) : Ol (((N : Int), (ts, ())), (0 : Int), ()) = some (trs ts ts.length, ()) := by
 rw [Tk, LW]
 have e := B9 (step := CD) (fun i (a : List Edge) => ((0 : Int), a, ts, AO ts, (i : Int), ())) (List.range ts.length) (fun i a => .inl (if (ts.getD i zT).2.2.2.1 = true then a ++ [ed (ts.getD i zT)] else a)) (fun a => .inl (a, ())) (fun i a => a.length ≤ i) (by simp; omega)
  (fun i x a hi hx ha => by
   refine ⟨fun m' h' => ?_, fun r h' => (by cases h')⟩
   cases h'
   have := BO hx
   subst this
   rw [List.length_range] at hi
   have hlv := (h x (by simp [hi])).2.2.2.1
   constructor
   ·rw [CD, AL, AM, decide_eq_true hi]
    simp only [Bf zT hi, AL]
    have hfit : fits ((a.length : Int) + (([((ts.getD x zT).1, (ts.getD x zT).2.1, ())] : List Edge).length : Int)) = true := A2 (by simp; omega)
    rw [AN (by omega), An, decide_eq_true hlv]
    cases ht4 : (ts.getD x zT).2.2.2.1
    ·simp
    ·simp only [hfit]
     simp [ed, Aq]
   ·split
    ·rw [List.length_append]; simp; omega
    ·omega)
  (fun a _ => by rw [CD, List.length_range, AL, AM, decide_eq_false (by omega)]) [] (Nat.le_refl _)
 have e' : AT CD many ((0 : Int), [], ts, AO ts, (0 : Int), ()) = _ := e
 simp only [e']
 rw [BA (fun i a => if (ts.getD i zT).2.2.2.1 = true then a ++ [ed (ts.getD i zT)] else a)]
 rfl
def cnt (out : List Int) (N : Nat) : Nat := ((List.range N).filter fun k => decide (out.getD k 0 = (k : Int))).length
theorem Vw {N : Nat} {rings : List (List Int)} {l : List Edge} {out : List Int} (h : FC (N : Int) rings l) (hc : Kd (N : Int) l out) : rings.length = cnt out N := by
 have hsz := h.fr.sz
 have hp : (rings.map hd).Perm (((List.range N).filter fun k => decide (out.getD k 0 = (k : Int))).map fun (k : Nat) => (k : Int)) := by
  rw [List.perm_ext_iff_of_nodup]
  ·intro a
   simp only [List.mem_map, List.mem_filter, List.mem_range, decide_eq_true_eq]
   constructor
   ·rintro ⟨A, hA, rfl⟩
    have gA := h.fr.rg A hA
    have ih : In (N : Int) (hd A) := NQ gA
    have hh := T7 gA.2.1
    have := APl h hc hA ih hh
    obtain ⟨_, _, a1, a2⟩ := ih
    refine ⟨(hd A).toNat, ⟨by omega, ?_⟩, by omega⟩
    rw [show out.getD (hd A).toNat 0 = cl out (hd A) from rfl, ← this]
    omega
   ·rintro ⟨k, ⟨hk, ho⟩, rfl⟩
    have ik : In (N : Int) (k : Int) := ⟨hsz.1, hsz.2, by omega, by omega⟩
    obtain ⟨A, hA, hm⟩ := h.fr.cov _ ik
    refine ⟨A, hA, ?_⟩
    rw [APl h hc hA ik hm]
    unfold cl
    rw [Int.toNat_natCast]; exact ho
  ·exact (List.pairwise_map.2 h.fr.up).imp (fun h => by omega)
  ·refine List.Pairwise.map _ (S := fun a b => a ≠ b) (R := fun a b => a ≠ b) (fun a b h h' => h (by omega)) ?_
   exact (List.nodup_range).filter _
 have := hp.length_eq
 rw [List.length_map, List.length_map] at this
 exact this
theorem Ns (N : Nat) (hN : N ≤ 64) (p : List Tie) (q : List Edge) (out : List Int) (ho : out.length = N) : AT C2 many ((N : Int), p, q, out, (0 : Int), (0 : Int), ()) = some (.inl ((N : Int), p, q, (cnt out N : Int), ())) := by
 have e := B9 (step := C2) (fun i (a : Nat) => ((N : Int), p, q, out, (a : Int), (i : Int), ())) (List.range N) (fun k a => .inl (if out.getD k 0 = (k : Int) then a + 1 else a)) (fun a => .inl ((N : Int), p, q, (a : Int), ())) (fun i a => a ≤ i) (by simp; omega)
  (fun i x a hi hx ha => by
   refine ⟨fun m' h' => ?_, fun r h' => (by cases h')⟩
   cases h'
   have := BO hx
   subst this
   rw [List.length_range] at hi
   constructor
   ·rw [C2, AM, decide_eq_true hi]
    simp only [Bf 0 (show x < out.length by omega), D0, Ai]
    rw [AN (by omega), AN (by omega)]
    by_cases h : out.getD x 0 = (x : Int)
    ·rw [decide_eq_true h, if_pos h]
    ·rw [decide_eq_false h, if_neg h]
   ·split <;> omega)
  (fun a _ => by rw [C2, List.length_range, AM, decide_eq_false (by omega)]) 0 (Nat.le_refl _)
 have e' : AT C2 many ((N : Int), p, q, out, (0 : Int), (0 : Int), ()) = _ := e
 rw [e', BA (fun k a => if out.getD k 0 = (k : Int) then a + 1 else a)]
 have key : ∀ (xs : List Nat) (a : Nat), xs.foldl (fun a k => if out.getD k 0 = (k : Int) then a + 1 else a) a = a + (xs.filter fun k => decide (out.getD k 0 = (k : Int))).length := by
  intro xs
  induction xs with
  | nil => intro a; rfl
  | cons x xs ih =>
   intro a
   rw [List.foldl_cons, ih, List.filter_cons]
   by_cases h : out.getD x 0 = (x : Int)
   ·simp only [h, if_true, decide_true, List.length_cons]; omega
   ·simp only [h, if_false, decide_false, Bool.false_eq_true]
 rw [key, Nat.zero_add]
 rfl
theorem ADM (n : Int) (ts : List Tie) (hl : ts.length < 4611686018427387904) : ∃ b : Bool, Bg ((n, (ts, ())), ()) = some (b, ()) ∧ EV ((n, (ts, ())), ()) = some (b, ()) ∧ (b = true → ∃ N : Nat, n = (N : Int) ∧ 1 ≤ N ∧ N ≤ 64 ∧ ts.length ≤ 400 ∧ oks N ts) := by
 by_cases hn : ¬ (1 ≤ n ∧ n ≤ 64)
 ·refine ⟨false, ?_, ?_, fun h => by cases h⟩
  ·rw [Ex, EA, Ah, Ah]
   by_cases h : n < 1
   ·simp only [decide_eq_true h]
   ·simp only [decide_eq_false h, decide_eq_true (show 64 < n by omega)]
  ·rw [I7, HF]
   simp only [Tl, LY, An]
   by_cases h : 1 ≤ n
   ·simp only [decide_eq_true h, decide_eq_false (show ¬ n ≤ 64 by omega), Bool.not_false]
   ·simp only [decide_eq_false h, Bool.not_false]
 have hn := Classical.not_not.1 hn
 obtain ⟨N, rfl⟩ := Int.eq_ofNat_of_zero_le (show 0 ≤ n by omega)
 have hsz : Tm ((N : Int), ()) = some (true, ()) := by
  simp only [Tl, LY, An, decide_eq_true hn.1, decide_eq_true hn.2]
 by_cases h4 : ¬ ts.length ≤ 400
 ·refine ⟨false, ?_, ?_, fun h => by cases h⟩
  ·rw [Ex, EA]
   simp only [Ah, AL]
   rw [decide_eq_false (show ¬ (N : Int) < 1 by omega), decide_eq_false (show ¬ 64 < (N : Int) by omega), decide_eq_true (show 400 < (ts.length : Int) by omega)]
  ·rw [I7, HF]
   simp only [hsz, Bool.not_true, Ah, AL]
   rw [decide_eq_true (show 400 < (ts.length : Int) by omega)]
 have h4 := Classical.not_not.1 h4
 have R := QP N (by omega) ts h4
 have L := APM N (by omega) ts h4
 by_cases ho : ¬ oks N ts
 ·rw [if_neg ho] at R L
  refine ⟨false, ?_, ?_, fun h => by cases h⟩
  ·rw [Ex, EA]
   simp only [Ah, AL]
   rw [decide_eq_false (show ¬ (N : Int) < 1 by omega), decide_eq_false (show ¬ 64 < (N : Int) by omega), decide_eq_false (show ¬ 400 < (ts.length : Int) by omega)]
   simp only [R]
  ·rw [I7, HF]
   simp only [hsz, Bool.not_true, Ah, AL, Ql N (by omega)]
   rw [decide_eq_false (show ¬ 400 < (ts.length : Int) by omega)]
   rw [AL] at L
   simp only [L]
 have ho := Classical.not_not.1 ho
 rw [if_pos ho] at R L
 have hin := YT (show N ≤ 64 by omega) ho
 have hlen := Pt ts ts.length
 obtain ⟨out, hc, hcl⟩ := B7 (N : Int) (trs ts ts.length) hn (by omega) hin
 rcases (AXR (N : Int) (trs ts ts.length) hn (by omega)).symm with ⟨hno, _⟩ | ⟨_, rings, hf, hfc⟩
 ·exact absurd hin hno
 have hcount := Vw hfc hcl
 have hol : out.length = N := by have := hcl.len; omega
 refine ⟨decide ((cnt out N : Int) = (N : Int) - (trs ts ts.length).length), ?_, ?_, fun _ => ⟨N, rfl, by omega, by omega, h4, ho⟩⟩
 ·rw [Ex, EA]
  simp only [Ah, AL]
  rw [decide_eq_false (show ¬ (N : Int) < 1 by omega), decide_eq_false (show ¬ 64 < (N : Int) by omega), decide_eq_false (show ¬ 400 < (ts.length : Int) by omega)]
  simp only [R, hc, Ns N (by omega) _ _ out hol, Ai]
  rw [Ag (by omega)]
 ·rw [I7, HF]
  simp only [hsz, Bool.not_true, Ah, AL, Ql N (by omega)]
  rw [decide_eq_false (show ¬ 400 < (ts.length : Int) by omega)]
  rw [AL] at L
  simp only [L, AT2 ts h4 ho, hf, Bb, Ai, hcount]
  rw [Ag (by omega)]
end Go.Pev.Pl
end
section
namespace Go.Pev.Pl
set_option linter.unusedSimpArgs false
set_option maxRecDepth 100000
theorem Kd.unique {N : Nat} {l : List Edge} {a b : List Int} (h1 : 1 ≤ N) (h2 : N ≤ 64) (ha : Kd (N : Int) l a) (hb : Kd (N : Int) l b) : a = b := by
 have la := ha.len
 have lb := hb.len
 refine Gc (0 : Int) (by omega) fun k hk => ?_
 have ik : In (N : Int) (k : Int) := ⟨by omega, by omega, by omega, by omega⟩
 have e1 := ha.least _ _ ik (hb.isin _ ik) (hb.con _ ik)
 have e2 := hb.least _ _ ik (ha.isin _ ik) (ha.con _ ik)
 unfold cl at e1 e2
 rw [Int.toNat_natCast] at e1 e2
 omega
theorem AGr (xs : List Tie) (a : List Edge) : xs.foldl (fun a x => a ++ [ed x]) a = a ++ xs.map ed := Aas ed xs a
theorem AUI (n : Int) (ts : List Tie) (hs : ts.length ≤ 400) (h : EV ((n, (ts, ())), ()) = some (true, ())) : AB2 ((n, (ts, ())), ()) = some (ts.map ed, ()) := by
 rw [AGW, Qn]
 simp only [h, Bool.not_true]
 have e := B9 (step := E4) (fun i (a : List Edge) => (a, ts, AO ts, (i : Int), ())) ts (fun x a => .inl (a ++ [ed x])) (fun a => .inl (a, ())) (fun i a => a.length ≤ i) (by omega)
  (fun i x a hi hx ha => by
   refine ⟨fun m' h' => ?_, fun r h' => (by cases h')⟩
   cases h'
   constructor
   ·rw [E4]
    simp only [AL]
    rw [AM, decide_eq_true hi]
    simp only [Ac hx]
    rw [A2 (by simp; omega), AN (by omega)]
    rfl
   ·rw [List.length_append]; simp; omega)
  (fun a _ => by rw [E4, AL, AM, decide_eq_false (by omega)]) [] (Nat.le_refl _)
 have e' : AT E4 many ([], ts, AO ts, (0 : Int), ()) = _ := e
 simp only [e']
 rw [BA (fun x a => a ++ [ed x]), AGr]
 rfl
theorem Ls (n : Int) (ts : List Tie) (hs : ts.length ≤ 400) (h : Bg ((n, (ts, ())), ()) = some (true, ())) : KB ((n, (ts, ())), ()) = some (ts.map ed, ()) := by
 rw [ACt, NG]
 simp only [h, Bool.not_true]
 have e := B9 (step := Dz) (fun i (a : List Edge) => (n, ts, a, (i : Int), ())) ts (fun x a => .inl (a ++ [ed x])) (fun a => .inl (a, ())) (fun i a => a.length ≤ i) (by omega)
  (fun i x a hi hx ha => by
   refine ⟨fun m' h' => ?_, fun r h' => (by cases h')⟩
   cases h'
   constructor
   ·rw [Dz]
    simp only [AL]
    rw [AM, decide_eq_true hi]
    simp only [Ac hx]
    rw [A2 (by simp; omega), AN (by omega)]
    rfl
   ·rw [List.length_append]; simp; omega)
  (fun a _ => by rw [Dz, AL, AM, decide_eq_false (by omega)]) [] (Nat.le_refl _)
 have e' : AT Dz many (n, ts, [], (0 : Int), ()) = _ := e
 simp only [e']
 rw [BA (fun x a => a ++ [ed x]), AGr]
 rfl
def InV (N : Nat) (x : Int) : Prop := 0 ≤ x ∧ x < (N : Int)
instance (N : Nat) (x : Int) : Decidable (InV N x) := inferInstanceAs (Decidable (_ ∧ _))
theorem Aar (P : Nat → Prop) [DecidablePred P] : ∀ (xs : List Nat) (a : Nat), xs.foldl (fun a k => if P k then a + 1 else a) a = a + (xs.filter fun k => decide (P k)).length := by
 intro xs
 induction xs with
 | nil => intro a; rfl
 | cons x xs ih =>
  intro a
  rw [List.foldl_cons, ih, List.filter_cons]
  by_cases h : P x
  ·simp only [h, if_true, decide_true, List.length_cons]; omega
  ·simp only [h, if_false, decide_false, Bool.false_eq_true]
theorem AfO {N : Nat} {out : List Int} (ho : out.length = N) {u : Int} (h : InV N u) : idx out u = some (cl out u) := by
 obtain ⟨U, rfl⟩ := Int.eq_ofNat_of_zero_le h.1
 have := h.2
 rw [Bf 0 (by omega)]
 unfold cl; rw [Int.toNat_natCast]
end Go.Pev.Pl
end
section
namespace Go.Pev.Pl
set_option linter.unusedSimpArgs false
set_option maxRecDepth 100000
end Go.Pev.Pl
end
section
namespace Go.Pev.Pl
set_option linter.unusedSimpArgs false
set_option maxRecDepth 100000
theorem T9 (l : List Edge) (u v : Int) (hs : l.length < 1073741824) : WX (l, (u, (v, ())), ()) = some (decide (((u, (v, ())) : Edge) ∈ l), ()) := by
 rw [APt, Xw]
 have e := DC (step := HP) (fun i => (l, u, v, (i : Int), ())) l (fun x => decide (x = (u, v, ()))) (fun _ => .inl (true, ())) (.inr (.inl ())) (by omega)
  (fun i x hi hx => by
   rw [HP, AL, AM, decide_eq_true hi]
   simp only [Ac hx, Ai]
   rw [AN (by omega)]
   obtain ⟨a, b, ⟨⟩⟩ := x
   by_cases h1 : a = u
   ·by_cases h2 : b = v
    ·simp [h1, h2]
    ·simp [h1, h2]
   ·simp [h1])
  (by rw [HP, AL, AM, decide_eq_false (by omega)])
 have e' : AT HP many (l, u, v, (0 : Int), ()) = _ := e
 simp only [e']
 have hany : (l.any fun x => decide (x = (u, v, ()))) = decide (((u, (v, ())) : Edge) ∈ l) := by
  rw [Bool.eq_iff_iff]
  simp
 rw [hany]
 generalize decide (((u, (v, ())) : Edge) ∈ l) = b
 cases b <;> rfl
theorem AQo {N : Nat} (h1 : 1 ≤ N) (hN : N ≤ 64) (ts : List Tie) (l : List Edge) (hs : l.length < 1073741824) (hr : Bg (((N : Int), (ts, ())), ()) = some (true, ())) :
  RZ (((N : Int), (ts, ())), l, ()) = some (if ∀ e ∈ l, In (N : Int) e.1 ∧ In (N : Int) e.2.1 then 0 else 10, ()) := by
 rw [ADR, NK]
 simp only [hr, Bool.not_true]
 have e := DC (step := D4) (fun i => (l, (N : Int), ts, (i : Int), ())) l (fun x => !decide (In (N : Int) x.1 ∧ In (N : Int) x.2.1)) (fun _ => .inl (10, ())) (.inr (.inl ())) (by omega)
  (fun i x hi hx => by
   rw [D4, AL, AM, decide_eq_true hi]
   simp only [Ac hx]
   rw [Ah, An, Ah, An, AN (by omega)]
   by_cases q1 : x.1 < 0
   ·rw [decide_eq_true q1, decide_eq_false (show ¬ (In (N : Int) x.1 ∧ In (N : Int) x.2.1) from fun h => by have := h.1.2.2.1; omega)]; rfl
   rw [decide_eq_false q1]
   by_cases q2 : (N : Int) ≤ x.1
   ·rw [decide_eq_true q2, decide_eq_false (show ¬ (In (N : Int) x.1 ∧ In (N : Int) x.2.1) from fun h => by have := h.1.2.2.2; omega)]; rfl
   rw [decide_eq_false q2]
   by_cases q3 : x.2.1 < 0
   ·rw [decide_eq_true q3, decide_eq_false (show ¬ (In (N : Int) x.1 ∧ In (N : Int) x.2.1) from fun h => by have := h.2.2.2.1; omega)]; rfl
   rw [decide_eq_false q3]
   by_cases q4 : (N : Int) ≤ x.2.1
   ·rw [decide_eq_true q4, decide_eq_false (show ¬ (In (N : Int) x.1 ∧ In (N : Int) x.2.1) from fun h => by have := h.2.2.2.2; omega)]; rfl
   rw [decide_eq_false q4, decide_eq_true (show In (N : Int) x.1 ∧ In (N : Int) x.2.1 from ⟨⟨by omega, by omega, by omega, by omega⟩, ⟨by omega, by omega, by omega, by omega⟩⟩)]
   rfl)
  (by rw [D4, AL, AM, decide_eq_false (by omega)])
 have e' : AT D4 many (l, (N : Int), ts, (0 : Int), ()) = _ := e
 rw [e']
 by_cases h : ∀ e ∈ l, In (N : Int) e.1 ∧ In (N : Int) e.2.1
 ·have : (l.any fun x => !decide (In (N : Int) x.1 ∧ In (N : Int) x.2.1)) = false := by
   rw [List.any_eq_false]
   intro x hx
   simp [h x hx]
  rw [this, if_pos h]
  rfl
 ·have : (l.any fun x => !decide (In (N : Int) x.1 ∧ In (N : Int) x.2.1)) = true := by
   rw [List.any_eq_true]
   refine Classical.byContradiction fun hn => h fun e he => ?_
   refine Classical.byContradiction fun hne => hn ⟨e, he, by rw [decide_eq_false hne]; rfl⟩
  rw [this, if_neg h]
  rfl
def ACR (l : List Edge) (u v : Int) : Prop := ((u, (v, ())) : Edge) ∈ l ∨ ((v, (u, ())) : Edge) ∈ l
instance (l : List Edge) (u v : Int) : Decidable (ACR l u v) := inferInstanceAs (Decidable (_ ∨ _))
def XG (N : Nat) (l : List Edge) (u : Nat) : List Edge := ((List.range (N - (u + 1))).filter fun i => decide (ACR l (u : Int) ((u + 1 + i : Nat) : Int))).map fun (i : Nat) => ((u : Int), ((u + 1 + i : Nat) : Int), ())
def HD (N : Nat) (l : List Edge) : List Edge := (List.range N).flatMap fun u => XG N l u
theorem Gb {α β : Type} (P : β → Prop) [DecidablePred P] (g : β → α) : ∀ (xs : List β) (a : List α), xs.foldl (fun a x => if P x then a ++ [g x] else a) a = a ++ (xs.filter fun x => decide (P x)).map g := by
 intro xs
 induction xs with
 | nil => intro a; simp
 | cons x xs ih =>
  intro a
  rw [List.foldl_cons, ih, List.filter_cons]
  by_cases h : P x
  ·simp [h]
  ·simp [h]
theorem AN6 (N : Nat) (hN : N ≤ 64) (l : List Edge) (hs : l.length < 1073741824) (u : Nat) (hu : u < N) (a : List Edge) (ha : a.length ≤ 64 * u) :
  AT C5 many ((N : Int), l, a, (u : Int), ((u + 1 : Nat) : Int), ()) = some (.inl ((N : Int), l, a ++ XG N l u, (u : Int), ())) := by
 have e := B9 (step := C5) (fun i (a : List Edge) => ((N : Int), l, a, (u : Int), ((u + 1 + i : Nat) : Int), ())) (List.range (N - (u + 1))) (fun i a => .inl (if ACR l (u : Int) ((u + 1 + i : Nat) : Int) then a ++ [((u : Int), ((u + 1 + i : Nat) : Int), ())] else a)) (fun a => .inl ((N : Int), l, a, (u : Int), ())) (fun i a => a.length ≤ 64 * u + i) (by simp; omega)
  (fun i x a hi hx ha => by
   refine ⟨fun m' h' => ?_, fun r h' => (by cases h')⟩
   cases h'
   have := BO hx
   subst this
   rw [List.length_range] at hi
   constructor
   ·rw [C5, AM, decide_eq_true (show u + 1 + x < N by omega)]
    simp only [T9 l _ _ hs, AL]
    have hfit : fits ((a.length : Int) + (([((u : Int), ((u + 1 + x : Nat) : Int), ())] : List Edge).length : Int)) = true := A2 (by simp; omega)
    rw [hfit, AN (by omega)]
    by_cases q1 : (((u : Int), (((u + 1 + x : Nat) : Int), ())) : Edge) ∈ l
    ·rw [decide_eq_true q1, if_pos (show ACR l (u : Int) ((u + 1 + x : Nat) : Int) from .inl q1)]
     rfl
    ·rw [decide_eq_false q1]
     by_cases q2 : (((((u + 1 + x : Nat) : Int), ((u : Int), ()))) : Edge) ∈ l
     ·rw [decide_eq_true q2, if_pos (show ACR l (u : Int) ((u + 1 + x : Nat) : Int) from .inr q2)]
      rfl
     ·rw [decide_eq_false q2, if_neg (show ¬ ACR l (u : Int) ((u + 1 + x : Nat) : Int) from fun h => by rcases h with h | h; exact q1 h; exact q2 h)]
      rfl
   ·split
    ·rw [List.length_append]; simp; omega
    ·omega)
  (fun a _ => by rw [C5, List.length_range, AM, decide_eq_false (by omega)]) a (by omega)
 have e' : AT C5 many ((N : Int), l, a, (u : Int), ((u + 1 : Nat) : Int), ()) = _ := e
 rw [e', BA (fun i a => if ACR l (u : Int) ((u + 1 + i : Nat) : Int) then a ++ [((u : Int), ((u + 1 + i : Nat) : Int), ())] else a), Gb (fun i : Nat => ACR l (u : Int) ((u + 1 + i : Nat) : Int)) (fun i : Nat => ((u : Int), ((u + 1 + i : Nat) : Int), ()))]
 rfl
theorem ANn (N : Nat) (hN : N ≤ 64) (l : List Edge) (u : Nat) : (XG N l u).length ≤ 64 := by
 unfold XG
 rw [List.length_map]
 have := List.length_filter_le (fun i => decide (ACR l (u : Int) ((u + 1 + i : Nat) : Int))) (List.range (N - (u + 1)))
 rw [List.length_range] at this
 omega
theorem Vy (N : Nat) (hN : N ≤ 64) (l : List Edge) (hs : l.length < 1073741824) : Ms ((N : Int), l, ()) = some (HD N l, ()) := by
 rw [AAo, Mr]
 have e := B9 (step := Ds) (fun i (a : List Edge) => ((N : Int), l, a, (i : Int), ())) (List.range N) (fun u a => .inl (a ++ XG N l u)) (fun a => .inl (a, ())) (fun i a => a.length ≤ 64 * i) (by simp; omega)
  (fun i x a hi hx ha => by
   refine ⟨fun m' h' => ?_, fun r h' => (by cases h')⟩
   cases h'
   have := BO hx
   subst this
   rw [List.length_range] at hi
   have hrow := ANn N hN l x
   constructor
   ·rw [Ds, AM, decide_eq_true hi, AN (by omega)]
    simp only [AN6 N hN l hs x hi a ha]
    rw [AN (by omega)]
   ·rw [List.length_append]; omega)
  (fun a _ => by rw [Ds, List.length_range, AM, decide_eq_false (by omega)]) [] (Nat.le_refl _)
 have e' : AT Ds many ((N : Int), l, [], (0 : Int), ()) = _ := e
 simp only [e']
 rw [BA (fun u a => a ++ XG N l u)]
 have key : ∀ (xs : List Nat) (a : List Edge), xs.foldl (fun a u => a ++ XG N l u) a = a ++ xs.flatMap fun u => XG N l u := by
  intro xs
  induction xs with
  | nil => intro a; simp
  | cons x xs ih => intro a; rw [List.foldl_cons, ih]; simp
 rw [key]
 rfl
end Go.Pev.Pl
end
section
namespace Go.Pev.Pl
set_option linter.unusedSimpArgs false
set_option maxRecDepth 100000
theorem Jp (N : Nat) (hN : N ≤ 64) (l : List Edge) : (HD N l).length ≤ 4096 := by
 have key : ∀ M, ((List.range M).flatMap fun u => XG N l u).length ≤ 64 * M := by
  intro M
  induction M with
  | zero => simp
  | succ M ih =>
   rw [List.range_succ, List.flatMap_append, List.length_append]
   have := ANn N hN l M
   simp only [List.flatMap_cons, List.flatMap_nil, List.append_nil]
   omega
 have := key N
 unfold HD
 omega
def CA (N : Nat) (ts : List Tie) (l : List Edge) : List Edge := (HD N l).filter fun x => !decide (x ∈ ts.map ed)
theorem AZk {N : Nat} (h1 : 1 ≤ N) (hN : N ≤ 64) (ts : List Tie) (ht : ts.length ≤ 400) (l : List Edge) (hs : l.length < 1073741824) (hr : Bg (((N : Int), (ts, ())), ()) = some (true, ())) :
  AGJ (((N : Int), (ts, ())), l, ()) = some (if ∀ e ∈ l, In (N : Int) e.1 ∧ In (N : Int) e.2.1 then (CA N ts l, 0, ()) else ([], 10, ())) := by
 rw [APB, Xr]
 simp only [AQo h1 hN ts l hs hr]
 by_cases h : ¬ ∀ e ∈ l, In (N : Int) e.1 ∧ In (N : Int) e.2.1
 ·rw [if_neg h, if_neg h, show ieq (10 : Int) (0 : Int) = false from by rw [Ai]; rfl]
  rfl
 have h := Classical.not_not.1 h
 rw [if_pos h, if_pos h, Bb]
 simp only [Bool.not_true, Ls (N : Int) ts ht hr, Vy N hN l hs]
 have hpl := Jp N hN l
 generalize hp : HD N l = p at hpl
 have e := B9 (step := HE) (fun i (a : List Edge) => (ts.map ed, p, a, (i : Int), ())) p (fun x a => .inl (if ¬ x ∈ ts.map ed then a ++ [x] else a)) (fun a => .inl (a, ())) (fun i a => a.length ≤ i) (by omega)
  (fun i x a hi hx ha => by
   refine ⟨fun m' h' => ?_, fun r h' => (by cases h')⟩
   cases h'
   constructor
   ·rw [HE, AL, AM, decide_eq_true hi]
    obtain ⟨u, v, ⟨⟩⟩ := x
    simp only [Ac hx, Gs hx, T9 (ts.map ed) u v (by rw [List.length_map]; omega), AL]
    have hfit : fits ((a.length : Int) + (([(u, v, ())] : List Edge).length : Int)) = true := A2 (by simp; omega)
    rw [hfit, AN (by omega)]
    by_cases q : ((u, v, ()) : Edge) ∈ ts.map ed
    ·rw [decide_eq_true q, if_neg (fun h => h q)]
     rfl
    ·rw [decide_eq_false q, if_pos q]
     rfl
   ·split
    ·rw [List.length_append]; simp; omega
    ·omega)
  (fun a _ => by rw [HE, AL, AM, decide_eq_false (by omega)]) [] (Nat.le_refl _)
 have e' : AT HE many (ts.map ed, p, [], (0 : Int), ()) = _ := e
 rw [e', BA (fun x a => if ¬ x ∈ ts.map ed then a ++ [x] else a), Gb (fun x : Edge => ¬ x ∈ ts.map ed) (fun x => x)]
 unfold CA
 rw [hp, List.nil_append, List.map_id']
 have hf : (p.filter fun x => decide ¬x ∈ ts.map ed) = p.filter fun x => !decide (x ∈ ts.map ed) := by
  refine List.filter_congr fun x _ => ?_
  simp
 rw [hf]
def Nh (l : List Tie) (t : Tie) : List Tie := l.take (l.findIdx fun x => !decide (ahead x t)) ++ t :: l.drop (l.findIdx fun x => !decide (ahead x t))
theorem AZD (l : List Tie) (t : Tie) (hs : l.length < 1073741824) : AN1 (l, t, ()) = some (Nh l t, ()) := by
 obtain ⟨u, v, lv, tr, ⟨⟩⟩ := t
 rw [AN0, Xl]
 have e := DC (step := HA) (fun i => (l, u, v, lv, tr, (i : Int), ())) l (fun x => !decide (ahead x (u, v, lv, tr, ()))) (fun i => .inl (l, u, v, lv, tr, (i : Int), ())) (.inl (l, u, v, lv, tr, (l.length : Int), ())) (by omega)
  (fun i x hi hx => by
   rw [HA, AL, AM, decide_eq_true hi]
   simp only [Ac hx, Ai]
   rw [Ah, Ah, AN (by omega)]
   by_cases q1 : x.1 < u
   ·rw [decide_eq_true q1, decide_eq_true (show ahead x (u, v, lv, tr, ()) from .inl q1)]; rfl
   rw [decide_eq_false q1]
   by_cases q2 : x.1 = u
   ·rw [decide_eq_true q2]
    by_cases q3 : x.2.1 < v
    ·rw [decide_eq_true q3, decide_eq_true (show ahead x (u, v, lv, tr, ()) from .inr ⟨q2, q3⟩)]; rfl
    ·rw [decide_eq_false q3, decide_eq_false (show ¬ ahead x (u, v, lv, tr, ()) from fun h => by rcases h with h | ⟨_, h⟩; exact q1 h; exact q3 h)]; rfl
   ·rw [decide_eq_false q2, decide_eq_false (show ¬ ahead x (u, v, lv, tr, ()) from fun h => by rcases h with h | ⟨h, _⟩; exact q1 h; exact q2 h)]; rfl)
  (by rw [HA, AL, AM, decide_eq_false (by omega)])
 have e' : AT HA many (l, u, v, lv, tr, (0 : Int), ()) = _ := e
 have hk : (if (l.any fun x => !decide (ahead x (u, v, lv, tr, ()))) = true then (Sum.inl (l, u, v, lv, tr, ((l.findIdx fun x => !decide (ahead x (u, v, lv, tr, ())) : Nat) : Int), ()) : (List Tie × Int × Int × Int × Bool × Int × Unit) ⊕ Unit) else .inl (l, u, v, lv, tr, (l.length : Int), ())) = .inl (l, u, v, lv, tr, ((l.findIdx fun x => !decide (ahead x (u, v, lv, tr, ())) : Nat) : Int), ()) := by
  by_cases h : (l.any fun x => !decide (ahead x (u, v, lv, tr, ()))) = true
  ·rw [if_pos h]
  ·rw [if_neg h]
   have : l.findIdx (fun x => !decide (ahead x (u, v, lv, tr, ()))) = l.length := by
    rw [List.findIdx_eq_length]
    intro x hx
    have h' : (l.any fun x => !decide (ahead x (u, v, lv, tr, ()))) = false := by simpa using h
    rw [List.any_eq_false] at h'
    simpa using h' x hx
   rw [this]
 rw [e', hk]
 unfold Nh
 have hle : l.findIdx (fun x => !decide (ahead x (u, v, lv, tr, ()))) ≤ l.length := List.findIdx_le_length
 generalize l.findIdx (fun x => !decide (ahead x (u, v, lv, tr, ()))) = k at hle
 have se : CM l (k : Int) (l.length : Int) = some (l.drop k) := EM hle
 simp only [Kv hle, se, AL, Bv, List.nil_append]
 rw [A2 (by simp; omega), A2 (by simp; omega), A2 (by simp; omega)]
 simp
end Go.Pev.Pl
end
section
namespace Go.Pev.Pl
set_option linter.unusedSimpArgs false
def valid (N : Nat) (t : Tie) : Prop := 0 ≤ t.1 ∧ t.1 < t.2.1 ∧ t.2.1 < (N : Int) ∧ 0 ≤ t.2.2.1 ∧ t.2.2.1 ≤ F8 N
theorem ahead.trans {a b c : Tie} (h : ahead a b) (h' : ahead b c) : ahead a c := by
 unfold ahead at *
 omega
theorem M3 (N : Nat) (ts : List Tie) : oks N ts ↔ (∀ t ∈ ts, valid N t) ∧ ts.Pairwise ahead := by
 constructor
 ·intro h
  have hv : ∀ i, i < ts.length → Km N ts i := fun i hi => h i (by simpa using hi)
  refine ⟨fun t ht => ?_, ?_⟩
  ·obtain ⟨i, hi, rfl⟩ := List.getElem_of_mem ht
   obtain ⟨q1, q2, q3, q4, q5, _⟩ := hv i hi
   simp only [List.getD_eq_getElem?_getD, List.getElem?_eq_getElem hi, Option.getD_some] at q1 q2 q3 q4 q5
   exact ⟨q1, q2, q3, q4, q5⟩
  ·have key : ∀ (d i : Nat), i + d + 1 < ts.length → ahead (ts.getD i zT) (ts.getD (i + d + 1) zT) := by
    intro d
    induction d with
    | zero =>
     intro i hi
     obtain ⟨_, _, _, _, _, q⟩ := hv (i + 0 + 1) hi
     rcases q with q | q
     ·omega
     ·simpa using q
    | succ d ih =>
     intro i hi
     have h1 := ih i (by omega)
     obtain ⟨_, _, _, _, _, q⟩ := hv (i + (d + 1) + 1) hi
     rcases q with q | q
     ·omega
     ·rw [show i + (d + 1) + 1 - 1 = i + d + 1 by omega] at q
      exact h1.trans q
   rw [List.pairwise_iff_getElem]
   intro i j hi hj hij
   have := key (j - i - 1) i (by omega)
   rw [show i + (j - i - 1) + 1 = j by omega] at this
   simpa only [List.getD_eq_getElem?_getD, List.getElem?_eq_getElem hi, List.getElem?_eq_getElem hj, Option.getD_some] using this
 ·rintro ⟨h1, h2⟩ i hi
  have hi : i < ts.length := by simpa using hi
  have e : ∀ j (hj : j < ts.length), ts.getD j zT = ts[j] := fun j hj => by
   simp only [List.getD_eq_getElem?_getD, List.getElem?_eq_getElem hj, Option.getD_some]
  obtain ⟨q1, q2, q3, q4, q5⟩ := h1 ts[i] (List.getElem_mem hi)
  unfold Km
  rw [e i hi]
  refine ⟨q1, q2, q3, q4, q5, ?_⟩
  by_cases h0 : i = 0
  ·exact .inl h0
  ·right
   rw [e (i - 1) (by omega)]
   exact (List.pairwise_iff_getElem.1 h2) (i - 1) i (by omega) hi (by omega)
theorem TB (l : List Tie) (t : Tie) : (Nh l t).Perm (t :: l) := by
 unfold Nh
 refine List.perm_middle.trans ?_
 rw [List.take_append_drop]
theorem AZC {l : List Tie} {t : Tie} (h : l.Pairwise ahead) (hn : ∀ x ∈ l, ¬ (x.1 = t.1 ∧ x.2.1 = t.2.1)) : (Nh l t).Pairwise ahead := by
 induction l with
 | nil => simp [Nh]
 | cons a l ih =>
  rw [List.pairwise_cons] at h
  have hna := hn a (by simp)
  have hnl : ∀ x ∈ l, ¬ (x.1 = t.1 ∧ x.2.1 = t.2.1) := fun x hx => hn x (by simp [hx])
  by_cases ha : ahead a t
  ·have e : Nh (a :: l) t = a :: Nh l t := by
    unfold Nh
    rw [List.findIdx_cons]
    simp [ha]
   rw [e, List.pairwise_cons]
   refine ⟨fun x hx => ?_, ih h.2 hnl⟩
   rcases List.mem_cons.1 ((TB l t).mem_iff.1 hx) with rfl | hx
   ·exact ha
   ·exact h.1 x hx
  ·have e : Nh (a :: l) t = t :: a :: l := by
    unfold Nh
    rw [List.findIdx_cons]
    simp [ha]
   have hta : ahead t a := by unfold ahead at *; omega
   rw [e, List.pairwise_cons, List.pairwise_cons]
   refine ⟨fun x hx => ?_, h.1, h.2⟩
   rcases List.mem_cons.1 hx with rfl | hx
   ·exact hta
   ·exact hta.trans (h.1 x hx)
end Go.Pev.Pl
end
section
namespace Go.Pev.Pl
set_option linter.unusedSimpArgs false
theorem ABX (N : Nat) (l : List Edge) (x : Edge) : x ∈ HD N l ↔ 0 ≤ x.1 ∧ x.1 < x.2.1 ∧ x.2.1 < (N : Int) ∧ ACR l x.1 x.2.1 := by
 unfold HD XG
 simp only [List.mem_flatMap, List.mem_map, List.mem_filter, List.mem_range, decide_eq_true_eq]
 constructor
 ·rintro ⟨u, hu, i, ⟨hi, he⟩, rfl⟩
  exact ⟨by show (0 : Int) ≤ (u : Int); omega, by show (u : Int) < ((u + 1 + i : Nat) : Int); omega, by show ((u + 1 + i : Nat) : Int) < (N : Int); omega, he⟩
 ·obtain ⟨a, b, ⟨⟩⟩ := x
  rintro ⟨h1, h2, h3, h4⟩
  simp only at h1 h2 h3 h4
  obtain ⟨u, rfl⟩ := Int.eq_ofNat_of_zero_le h1
  obtain ⟨v, rfl⟩ := Int.eq_ofNat_of_zero_le (show 0 ≤ b by omega)
  refine ⟨u, by omega, v - (u + 1), ⟨by omega, ?_⟩, ?_⟩
  ·rw [show u + 1 + (v - (u + 1)) = v by omega]; exact h4
  ·rw [show u + 1 + (v - (u + 1)) = v by omega]
def GK (p x : Edge) : Prop := p.1 < x.1 ∨ (p.1 = x.1 ∧ p.2.1 < x.2.1)
theorem Vx (N : Nat) (l : List Edge) : (HD N l).Pairwise GK := by
 unfold HD
 rw [List.pairwise_flatMap]
 refine ⟨fun u _ => ?_, ?_⟩
 ·unfold XG
  rw [List.pairwise_map]
  refine List.Pairwise.filter _ ?_
  refine List.pairwise_lt_range.imp fun h => ?_
  exact .inr ⟨rfl, by show ((u + 1 + _ : Nat) : Int) < ((u + 1 + _ : Nat) : Int); omega⟩
 ·refine List.pairwise_lt_range.imp fun h x hx y hy => ?_
  unfold XG at hx hy
  simp only [List.mem_map] at hx hy
  obtain ⟨i, _, rfl⟩ := hx
  obtain ⟨j, _, rfl⟩ := hy
  exact .inl (by simp only; omega)
theorem Tc (N : Nat) (ts : List Tie) (l : List Edge) (x : Edge) : x ∈ CA N ts l ↔ (0 ≤ x.1 ∧ x.1 < x.2.1 ∧ x.2.1 < (N : Int) ∧ ACR l x.1 x.2.1) ∧ ¬ x ∈ ts.map ed := by
 unfold CA
 rw [List.mem_filter, ABX]
 simp
theorem AVZ (N : Nat) (ts : List Tie) (l : List Edge) : (CA N ts l).Pairwise GK := (Vx N l).filter _
end Go.Pev.Pl
end
section
namespace Go.Pev.Pl
open Tok
instance (n v : Int) : Decidable (In n v) := inferInstanceAs (Decidable (_ ∧ _))
instance (n : Int) : Decidable (Sz n) := inferInstanceAs (Decidable (_ ∧ _))
theorem JC (n v : Int) : AEy (n, v, ()) = some (decide (In n v), ()) := by
 rw [AXH, AKV]
 simp only [An, Ah]
 by_cases h1 : 1 ≤ n <;> by_cases h2 : n ≤ 64 <;> by_cases h3 : 0 ≤ v <;> simp [In, h1, h2, h3]
theorem AHA (n u v : Int) : ADT (n, u, v, ()) = some (Db n u v, ()) := by
 rw [AQq, X4]
 simp only [JC, Db, Ai]
 by_cases h1 : In n u
 ·by_cases h2 : In n v
  ·by_cases h3 : u = v
   ·simp [h1, h2, h3]
   ·obtain ⟨a1, a2, a3, a4⟩ := h1
    obtain ⟨b1, b2, b3, b4⟩ := h2
    have hb := E1 a1 a2 a3 (by omega)
    have e1 : u * n = n * u := Int.mul_comm _ _
    have e2 : n * (u + 1) = n * u + n := by rw [Int.mul_add, Int.mul_one]
    rw [e1, Ag (n := n * u) (by omega), Ag (n := n + n * u) (by omega), Ag (n := n + n * u + v) (by omega), e2]
    have e3 : n + n * u + v = n * u + n + v := by omega
    simp [In, a1, a2, a3, a4, b3, b4, h3, e3]
  ·simp [h1, h2]
 ·simp [h1]
theorem Vm (n t : Int) (ht : -9223372036854775808 ≤ t ∧ t ≤ 9223372036854775807) : Mf (n, t, ()) = some (Nd (Bm n t)) := by
 rw [Yj, Me]
 simp only [JC, Ah, An]
 by_cases hi : In n t
 ·simp only [hi, decide_true, Bm, if_true, Nd]
 ·simp only [hi, decide_false]
  by_cases h1 : n < 1
  ·have hs : ¬ Sz n := fun h => by have := h.1; omega
   simp only [h1, decide_true, Bm, hi, if_false, hs, false_and, Nd]
  ·simp only [h1, decide_false]
   by_cases h2 : 64 < n
   ·have hs : ¬ Sz n := fun h => by have := h.2; omega
    simp only [h2, decide_true, Bm, hi, if_false, hs, false_and, Nd]
   ·have a1 : 1 ≤ n := by omega
    have a2 : n ≤ 64 := by omega
    have hb := E1 (u := n) a1 a2 (by omega) (by omega)
    have e3 : n * (n + 1) = n * n + n := by rw [Int.mul_add, Int.mul_one]
    rw [Ag (n := n * n) (by omega), Ag (n := n + n * n) (by omega)]
    simp only [h2, decide_false]
    by_cases h3 : t < n
    ·have : ¬ n ≤ t := by omega
     simp only [h3, decide_true, Bm, hi, if_false, this, false_and, and_false, Nd]
    ·simp only [h3, decide_false]
     by_cases h4 : n + n * n ≤ t
     ·have : ¬ t < n * (n + 1) := by omega
      simp only [h4, decide_true, Bm, hi, if_false, this, false_and, and_false, Nd]
     ·obtain ⟨d1, d2, d3⟩ := ALC (t := t) ⟨a1, a2⟩ (by omega) (by omega)
      have q1 := d1.2.2.1
      have q2 := d1.2.2.2
      rw [Ag (n := t - n) (by omega)]
      have hq : (t - n).tdiv n = t / n - 1 := by
       rw [Int.tdiv_eq_ediv_of_nonneg (by omega)]
       have := Int.add_mul_ediv_right t (-1) (show n ≠ 0 by omega)
       rw [show t - n = t + -1 * n by omega, this]; omega
      have hm : (t - n).tmod n = t % n := by
       rw [Int.tmod_eq_emod_of_nonneg (by omega)]
       have := Int.add_mul_emod_self_right t (-1) n
       rw [show t - n = t + -1 * n by omega, this]
      simp only [h4, decide_false, Oc, QR, AJG, AAe]
      rw [if_neg (by omega), if_neg (by omega), hq, hm, Ag (n := t / n - 1) (by omega)]
      simp only []
      rw [Ai, Bm, if_neg hi]
      by_cases h5 : t / n - 1 = t % n
      ·rw [if_neg (by intro h; exact h.2.2.2 h5), decide_eq_true h5]; rfl
      ·rw [if_pos ⟨⟨a1, a2⟩, by omega, by omega, h5⟩, decide_eq_false h5]; rfl
theorem APN (xs ys : List (List Int)) (hs : xs.length < 9223372036854775808) (hi : ∀ x ∈ xs, x.length < 9223372036854775808) : Qm (xs, ys, ()) = some (decide (xs = ys), ()) := by
 rw [ABr, M9, ACN]
 by_cases hl : xs.length = ys.length
 ·rw [decide_eq_true hl]
  simp only [Bool.not_true]
  rcases AWY (step := C9) (fun i => (xs, ys, ((i : Nat) : Int), ())) xs.length (fun i => !decide (xs.getD i [] = ys.getD i [])) (fun _ => .inl (false, ())) (.inr (.inl ())) hs (fun i hii => by
   have hm : (xs.getD i []).length < 9223372036854775808 := hi _ (by simp [hii])
   rw [C9, AL, AM, decide_eq_true hii]
   simp (disch := first | omega | exact hm) only [Bf ([] : List Int), AN, AUQ]
   by_cases h : xs.getD i [] = ys.getD i []
   ·rw [decide_eq_true h]; simp
   ·rw [decide_eq_false h]; simp) (by rw [C9, AL, AM, decide_eq_false (by omega)]) with ⟨k, hk, hP, _, e⟩ | ⟨h, e⟩
  ·have e' : AT C9 many (xs, ys, (0 : Int), ()) = _ := e
   rw [e']
   have : xs ≠ ys := WR ([] : List Int) (j := k) (by simpa using hP)
   simp [this]
  ·have e' : AT C9 many (xs, ys, (0 : Int), ()) = _ := e
   rw [e']
   have : xs = ys := Gc ([] : List Int) hl fun j hj => by simpa using h j hj
   simp [this]
 ·rw [decide_eq_false hl]
  have : xs ≠ ys := fun e => hl (by rw [e])
  simp [this]
theorem API (N : Nat) (hN : N ≤ 64) (c : Int) : ∀ (k i n : Nat), i + k = N → k < n → AW E3 n ((N : Int), c, (N : Int), BL i, (i : Int), ()) = some (.inl (c, (N : Int), BL N, ())) := by
 intro k
 induction k with
 | zero =>
  intro i n hi hn
  obtain ⟨n, rfl⟩ : ∃ k, n = k + 1 := ⟨n - 1, by omega⟩
  have : i = N := by omega
  subst this
  rw [AW, E3, AM, decide_eq_false (by omega)]
 | succ k ih =>
  intro i n hi hn
  obtain ⟨n, rfl⟩ : ∃ k, n = k + 1 := ⟨n - 1, by omega⟩
  rw [AW, E3, AM, decide_eq_true (by omega)]
  simp only [AL, Vs, List.length_cons, List.length_nil]
  rw [A2 (by omega), AN (by omega)]
  simp only [Bv, ← QG]
  exact ih (i + 1) n (by omega) (by omega)
theorem AT0 (n : Int) : Tj (n, ()) = some (J1 n) := by
 have hm : 4294967296 < many := by simp only [many]; omega
 rw [AGP, Qk, J1]
 simp only [Ah]
 by_cases h1 : n < 1
 ·have : ¬ Sz n := fun h => by have := h.1; omega
  simp [h1, this]
 ·by_cases h2 : 64 < n
  ·have : ¬ Sz n := fun h => by have := h.2; omega
   simp [h1, h2, this]
  ·obtain ⟨N, rfl⟩ := Int.eq_ofNat_of_zero_le (show 0 ≤ n by omega)
   have hS : Sz (N : Int) := ⟨by omega, by omega⟩
   have e := API N (by omega) 0 N 0 many (by omega) (by omega)
   have e' : AW E3 many ((N : Int), 0, (N : Int), [], (0 : Int), ()) = _ := e
   simp [h1, h2, hS, Aj, e']
end Go.Pev.Pl
end
section
namespace Go.Pev.Pl
theorem LL (xs : List Int) (t : Int) (hs : xs.length < 9223372036854775808) : Hu (xs, t, ()) = some (pos xs t, ()) := by
 rw [AA1, Mw]
 have e := DC (step := Dv) (fun i => (xs, t, (i : Int), ())) xs (fun x => decide (x = t)) (fun i => .inl ((i : Int), ())) (.inr (.inl ())) hs
  (fun i x hi hx => by
   rw [Dv, AL, AM, decide_eq_true hi]
   simp only [Ac hx, Ai]
   by_cases h : x = t
   ·simp [h]
   ·simp only [h, decide_false]; rw [AN (by omega)]; simp)
  (by rw [Dv, AL, AM, decide_eq_false (by omega)])
 have e' : AT Dv many (xs, t, (0 : Int), ()) = _ := e
 rw [e', ALk, pos]
 by_cases h : t ∈ xs <;> simp [h]
instance (xs : List Int) : Decidable (Rt xs) := inferInstanceAs (Decidable (_ ∧ _ ∧ _))
theorem LJ (xs : List Int) : Jn (xs, ()) = some (decide (Rt xs), ()) := by
 rw [AAc, Mo, AL, Ah]
 by_cases hl : xs.length ≤ 1000
 ·rw [decide_eq_false (by omega)]
  simp only []
  rcases AWY (step := C3) (fun i => (xs, ((i : Nat) : Int), ())) xs.length (fun i => decide (xs.getD i 0 < 0) || decide (10000 < xs.getD i 0) || decide (xs.getD i 0 ∈ xs.take i)) (fun _ => .inl (false, ())) (.inr (.inl ())) (by omega) (fun i hi => by
   rw [C3, AL, AM, decide_eq_true hi]
   have hpl : Hu (xs.take i, xs.getD i 0, ()) = some (pos (xs.take i) (xs.getD i 0), ()) := LL _ _ (by simp; omega)
   simp (disch := omega) only [Bf (0 : Int), Kv, hpl, AN, Ah, An]
   by_cases h1 : xs.getD i 0 < 0
   ·simp only [h1, decide_true]; simp
   ·by_cases h2 : 10000 < xs.getD i 0
    ·simp only [h1, h2, decide_true, decide_false]; simp
    ·by_cases h3 : xs.getD i 0 ∈ xs.take i
     ·obtain ⟨k, e, _⟩ := AJS h3
      rw [e]
      simp only [h1, h2, h3, decide_true, decide_false]; simp
     ·rw [QS h3]
      simp only [h1, h2, h3, decide_false]; simp) (by rw [C3, AL, AM, decide_eq_false (by omega)]) with ⟨k, hk, hP, _, e⟩ | ⟨h, e⟩
  ·have e' : AT C3 many (xs, (0 : Int), ()) = _ := e
   rw [e']
   have : ¬ Rt xs := by
    rintro ⟨_, h1, h2⟩
    have hm : xs.getD k 0 ∈ xs := by
     rw [List.getD_eq_getElem?_getD, List.getElem?_eq_getElem hk, Option.getD_some]; exact List.getElem_mem hk
    have := h1 _ hm
    have h3 := (Qe xs).1 h2 k hk
    have c1 : ¬ xs.getD k 0 < 0 := by omega
    have c2 : ¬ 10000 < xs.getD k 0 := by omega
    rw [decide_eq_false c1, decide_eq_false c2, decide_eq_false h3] at hP
    cases hP
   simp [this]
  ·have e' : AT C3 many (xs, (0 : Int), ()) = _ := e
   rw [e']
   have : Rt xs := by
    have key : ∀ j, j < xs.length → ¬ xs.getD j 0 < 0 ∧ ¬ 10000 < xs.getD j 0 ∧ xs.getD j 0 ∉ xs.take j := fun j hj => by
     have := h j hj
     rw [Bool.or_eq_false_iff, Bool.or_eq_false_iff, decide_eq_false_iff_not, decide_eq_false_iff_not, decide_eq_false_iff_not] at this
     exact ⟨this.1.1, this.1.2, this.2⟩
    refine ⟨hl, fun x hx => ?_, (Qe xs).2 fun j hj => (key j hj).2.2⟩
    obtain ⟨j, hj, rfl⟩ := List.getElem_of_mem hx
    obtain ⟨k1, k2, _⟩ := key j hj
    rw [List.getD_eq_getElem?_getD, List.getElem?_eq_getElem hj, Option.getD_some] at k1 k2
    omega
   simp [this]
 ·rw [decide_eq_true (by omega)]
  have : ¬ Rt xs := fun h => hl h.1
  simp [this]
theorem O4 (xs : List Int) (t : Int) (hs : xs.length < 9223372036854775808) : O5 (xs, t, ()) = some (IA xs t) := by
 rw [AGq, Q5, IA]
 simp only [LL xs t hs, LJ]
 by_cases hr : Rt xs
 ·have hl := hr.1
  simp only [hr, decide_true, Bool.not_true, true_and]
  by_cases h : t ∈ xs
  ·have hk : xs.findIdx (fun x => decide (x = t)) < xs.length := List.findIdx_lt_length.2 ⟨t, h, by simp⟩
   rw [pos, if_pos h, if_pos h, Au, rot]
   generalize xs.findIdx (fun x => decide (x = t)) = k at *
   rw [Ah, decide_eq_false (by omega)]
   simp only [EM (Nat.le_of_lt hk), Kv (Nat.le_of_lt hk)]
   rw [A2 (by simp only [AL, List.length_nil, List.length_drop]; omega)]
   simp only []
   rw [A2 (by simp only [AL, Bv, List.nil_append, List.length_take, List.length_drop]; omega)]
   simp only [Bv, List.nil_append]
  ·rw [QS h, if_neg h, Ah]
   simp
 ·simp [hr]
theorem Vz (xs : List Int) : Mu (xs, ()) = some (plain xs, ()) := by
 rw [AAr, Mt, plain]
 simp only [LJ]
 by_cases hr : Rt xs
 ·have hl := hr.1
  simp only [hr, decide_true, Bool.not_true, true_and]
  cases xs with
  | nil => simp [AL, HJ]
  | cons x xs =>
   rw [AL, Ai, decide_eq_false (by simp only [List.length_cons]; omega)]
   have i0 : idx (x :: xs) (0 : Int) = some x := by rw [EX]; rfl
   simp only [i0]
   have e := B9 (step := Dt) (fun i (a : Int) => (x :: xs, a, (i : Int), ())) (x :: xs) (fun y a => .inl (CF a y)) (fun a => .inl (x :: xs, a, ())) (fun _ _ => True) (by omega)
    (fun i y a hi hy _ => by
     refine ⟨fun m' h' => ?_, fun r h' => by cases h'⟩
     cases h'
     rw [Dt, AL, AM, decide_eq_true hi]
     simp only [Ac hy]
     rw [AN (by omega)]
     exact ⟨rfl, trivial⟩)
    (fun a _ => by rw [Dt, AL, AM, decide_eq_false (by omega)]) x trivial
   have e' : AT Dt many (x :: xs, x, (0 : Int), ()) = _ := e
   rw [e', BA]
   have hmin : (x :: xs).foldl (fun a y => CF a y) x = Fw (x :: xs) := by
    rw [List.foldl_cons, Fw]
    have : CF x x = x := by rw [CF]; split <;> rfl
    rw [this]
   rw [hmin]
   have hm := (EC (xs := x :: xs) (by simp)).1
   simp only [O4 (x :: xs) _ (by omega), IA, hr, hm, and_self, if_true]
   simp
 ·simp [hr]
end Go.Pev.Pl
end
section
namespace Go.Pev.Pl
open Tok
noncomputable instance (n : Int) (xs : List Int) : Decidable (TI n xs) := Classical.propDecidable _
end Go.Pev.Pl
end
section
namespace Go.Pev.Pl
open Tok
theorem AID (n t u : Int) (ht : -9223372036854775808 ≤ t ∧ t ≤ 9223372036854775807) : Kw (n, t, u, ()) = some (Je n t u, ()) := by
 rw [Vp, Jf, Je]
 simp only [Vm n t ht, Ai]
 cases Bm n t with
 | none => rfl
 | some x => cases x with
  | ver v =>
   by_cases h : v = u <;> simp [Nd, st, h]
  | arc p q =>
   by_cases h : q = u <;> simp [Nd, st, h]
end Go.Pev.Pl
end
section
namespace Go.Pev.Pl
open Tok
theorem Afl (n : Int) (l : List Int) (i : Nat) (hi : i < l.length) (hl : l.length < 1073741824) (d5 d6 d7 d8 : Bool) (d9 d10 : Int) (d11 : Bool) (d12 d13 d14 d15 d16 : Int) (d17 : Bool) (d18 d19 d20 d21 d22 d23 d24 d25 d26 : Int) (d27 : Bool) :
  ∀ (m k cnt : Nat) (acc : List Int), k + m = l.length → acc.length ≤ k → m < cnt →
  AW Em cnt (n, l, (i : Int), acc, (k : Int), d5, d6, d7, d8, d9, d10, d11, d12, d13, d14, d15, d16, d17, d18, d19, d20, d21, d22, d23, d24, d25, d26, d27, ()) =
   some (.inl (n, (i : Int), acc ++ (List.range' k m).map (fun k => l.getD ((i + k) % l.length) 0), d5, d6, d7, d8, d9, d10, d11, d12, d13, d14, d15, d16, d17, d18, l, d19, d20, d21, d22, d23, d24, d25, d26, d27, ())) := by
 intro m
 induction m with
 | zero =>
  intro k cnt acc hk ha hc
  obtain ⟨cnt, rfl⟩ : ∃ c, cnt = c + 1 := ⟨cnt - 1, by omega⟩
  rw [AW, Em, AL, AM, decide_eq_false (by omega)]
  simp
 | succ m ih =>
  intro k cnt acc hk ha hc
  obtain ⟨cnt, rfl⟩ : ∃ c, cnt = c + 1 := ⟨cnt - 1, by omega⟩
  have hm : (i + k) % l.length < l.length := Nat.mod_lt _ (by omega)
  rw [AW, Em, AL, AM, decide_eq_true (by omega)]
  simp only []
  rw [wrap_add (by omega), Xk (by omega)]
  simp only [Bf (0 : Int) hm, D0]
  rw [A2 (by simp only [AL, List.length_cons, List.length_nil]; omega), AN (by omega)]
  simp only [Bv]
  rw [ih (k + 1) cnt _ (by omega) (by simp; omega) (by omega)]
  simp [List.range'_succ]
theorem ARJ (n : Int) (l : List Int) (i : Nat) (hi : i < l.length) (h1 : 1 < l.length) (hl : l.length < 1073741824) (hr : ∀ x ∈ l, -9223372036854775808 ≤ x ∧ x ≤ 9223372036854775807) :
  CB (n, l, false, (i : Int), ()) = if J5 n l i then some (.inl (n, Ey l i, true, ((i + 1 : Nat) : Int), ())) else some (.inl (n, l, false, ((i + 1 : Nat) : Int), ())) := by
 have hmany : 4294967296 < many := by simp only [many]; omega
 have m1 : (i + 1) % l.length < l.length := Nat.mod_lt _ (by omega)
 have m2 : (i + 2) % l.length < l.length := Nat.mod_lt _ (by omega)
 have m0 : (i + l.length - 1) % l.length < l.length := Nat.mod_lt _ (by omega)
 have hin : ∀ {k : Nat}, k < l.length → l.getD k 0 ∈ l := fun {k} hk => by
  rw [List.getD_eq_getElem?_getD, List.getElem?_eq_getElem hk, Option.getD_some]; exact List.getElem_mem hk
 have w2 : IntKind.wrap .i64 ((i : Int) + 2) = ((i + 2 : Nat) : Int) := by rw [Ag (by omega)]; omega
 have w3 : IntKind.wrap .i64 ((i : Int) + (l.length : Int)) = ((i + l.length : Nat) : Int) := wrap_add (by omega)
 have w4 : IntKind.wrap .i64 (((i + l.length : Nat) : Int) - 1) = ((i + l.length - 1 : Nat) : Int) := A9 (by omega)
 have f4 : ile (4 : Int) (l.length : Int) = decide (4 ≤ l.length) := by
  rw [An]
  by_cases h : 4 ≤ l.length
  ·rw [decide_eq_true h, decide_eq_true (by omega)]
  ·rw [decide_eq_false h, decide_eq_false (by omega)]
 rw [CB, AL, AM, decide_eq_true hi]
 simp only [Bool.not_false, Bf (0 : Int) hi]
 rw [AN (by omega), w2, Xk (by omega), Xk (by omega)]
 simp only [Bf (0 : Int) m1, Bf (0 : Int) m2, D0, Vm n _ (hr _ (hin hi)), f4, J5]
 by_cases h4 : 4 ≤ l.length
 ·simp only [h4, decide_true, Bool.true_and]
  cases ht : Bm n (l.getD i 0) with
  | none => rfl
  | some t =>
   cases t with
   | ver v => rfl
   | arc u v =>
    simp only [Nd, Ai, AHA]
    by_cases c1 : l.getD ((i + 1) % l.length) 0 = v
    ·simp only [c1, decide_true, Bool.true_and]
     by_cases c2 : l.getD ((i + 2) % l.length) 0 = Db n v u
     ·simp only [c2, decide_true, Bool.true_and, w3, w4]
      rw [Xk (by omega)]
      simp only [Bf (0 : Int) m0, D0, AID n _ u (hr _ (hin m0))]
      cases Je n (l.getD ((i + l.length - 1) % l.length) 0) u
      ·rfl
      ·simp only [if_true, Aj]
       have e := Afl n l i hi hl false true true true v v true (Db n v u) n v u (Db n v u) true n (i : Int) (l.length : Int) ((i + l.length : Nat) : Int) ((i + l.length - 1 : Nat) : Int) (l.length : Int) (((i + l.length - 1) % l.length : Nat) : Int) (l.getD ((i + l.length - 1) % l.length) 0) u true (l.length - 3) 3 many [] (by omega) (by simp) (by omega)
       have e' : AW Em many (n, l, (i : Int), [], (3 : Int), _) = _ := e
       simp only [e', AN (show i + 1 < 9223372036854775808 by omega)]
       rfl
     ·simp only [c2, decide_false, Bool.false_and, Bool.false_eq_true, if_false]
    ·simp only [c1, decide_false, Bool.false_and, Bool.false_eq_true, if_false]
 ·simp only [h4, decide_false, Bool.false_and, Bool.false_eq_true, if_false]
theorem Afm (n : Int) (l : List Int) (h1 : 1 < l.length) (hl : l.length < 1073741824) (hr : ∀ x ∈ l, -9223372036854775808 ≤ x ∧ x ≤ 9223372036854775807) :
  ∀ (m i cnt : Nat), i + m = l.length → m + 1 < cnt →
  (∃ k, k < l.length ∧ J5 n l k = true ∧ AW CB cnt (n, l, false, (i : Int), ()) = some (.inl (n, Ey l k, true, ()))) ∨
  ((∀ k, i ≤ k → k < l.length → J5 n l k = false) ∧ AW CB cnt (n, l, false, (i : Int), ()) = some (.inl (n, l, false, ()))) := by
 intro m
 induction m with
 | zero =>
  intro i cnt hi hc
  obtain ⟨cnt, rfl⟩ : ∃ c, cnt = c + 1 := ⟨cnt - 1, by omega⟩
  right
  refine ⟨fun k q1 q2 => by omega, ?_⟩
  rw [AW, CB, AL, AM, decide_eq_false (by omega)]
 | succ m ih =>
  intro i cnt hi hc
  obtain ⟨cnt, rfl⟩ : ∃ c, cnt = c + 1 := ⟨cnt - 1, by omega⟩
  rw [AW, ARJ n l i (by omega) h1 hl hr]
  cases hlf : J5 n l i
  ·simp only [Bool.false_eq_true, if_false]
   rcases ih (i + 1) cnt (by omega) (by omega) with h | ⟨h, e⟩
   ·exact .inl h
   ·refine .inr ⟨fun k q1 q2 => ?_, e⟩
    by_cases ek : k = i
    ·rw [ek]; exact hlf
    ·exact h k (by omega) q2
  ·simp only [if_true]
   obtain ⟨cnt, rfl⟩ : ∃ c, cnt = c + 1 := ⟨cnt - 1, by omega⟩
   refine .inl ⟨i, by omega, hlf, ?_⟩
   rw [AW, CB]
   cases ilt ((i + 1 : Nat) : Int) (AO (Ey l i)) <;> rfl
theorem Afn (n : Int) : ∀ (m : Nat) (l : List Int) (cnt : Nat), l.length = m → l.length < 1073741824 → (∀ x ∈ l, -9223372036854775808 ≤ x ∧ x ≤ 9223372036854775807) → l.Nodup → m < cnt →
  (¬ TI n l ∧ AW Gn cnt (n, l, ()) = some (.inl (false, ()))) ∨
  ∃ l', AW Gn cnt (n, l, ()) = some (.inr (.inl (n, l', ()))) ∧ l'.length ≤ 1 ∧ (TI n l ↔ TI n l') := by
 intro m
 induction m using Nat.strongRecOn with
 | _ m ih =>
 intro l cnt hm hl hr hn hc
 have hmany : 4294967296 < many := by simp only [many]; omega
 obtain ⟨cnt, rfl⟩ : ∃ c, cnt = c + 1 := ⟨cnt - 1, by omega⟩
 rw [AW, Gn, AL, Ah]
 by_cases h1 : 1 < l.length
 ·rw [decide_eq_true (by omega)]
  simp only [Aj]
  rcases Afm n l h1 hl hr l.length 0 many (by omega) (by omega) with ⟨k, k1, k2, e⟩ | ⟨k1, e⟩
  ·have e' : AW CB many (n, l, false, (0 : Int), ()) = _ := e
   simp only [e', Bool.not_true]
   have hred := AUK k1 k2
   have hiff := Ahz hred hn
   have hlen : (Ey l k).length = l.length - 3 := by simp [Ey]
   rcases ih (l.length - 3) (by omega) (Ey l k) cnt hlen (by omega) (fun x hx => hr x (ASp k1 x hx)) (AZB hred hn) (by omega) with ⟨q1, q2⟩ | ⟨l', q1, q2, q3⟩
   ·exact .inl ⟨fun h => q1 (hiff.1 h), q2⟩
   ·exact .inr ⟨l', q1, q2, hiff.trans q3⟩
  ·have e' : AW CB many (n, l, false, (0 : Int), ()) = _ := e
   simp only [e', Bool.not_false]
   refine .inl ⟨fun h => ?_, by trivial⟩
   obtain ⟨l', hl'⟩ := AiS h h1
   obtain ⟨i, i1, i2⟩ := ASt hl'
   rw [k1 i (by omega) i1] at i2
   cases i2
 ·rw [decide_eq_false (by omega)]
  exact .inr ⟨l, rfl, by omega, Iff.rfl⟩
theorem ARK (n : Int) (l : List Int) (hl : l.length < 1073741824) (hr : ∀ x ∈ l, -9223372036854775808 ≤ x ∧ x ≤ 9223372036854775807) (hn : l.Nodup) : Ye (n, l, ()) = some (decide (TI n l), ()) := by
 have hmany : 4294967296 < many := by simp only [many]; omega
 rw [AFZ, Py, A2 (by simp only [AL, List.length_nil]; omega)]
 simp only [Bv, List.nil_append, Aj]
 rcases Afn n l.length l many rfl hl hr hn (by omega) with ⟨q1, q2⟩ | ⟨l', q1, q2, q3⟩
 ·rw [q2, decide_eq_false q1]
 ·rw [q1]
  simp only [AL, Ai]
  match l', q2, q3 with
  | [], _, q3 =>
   have : ¬ TI n l := fun h => Afc n (q3.1 h)
   simp [this]
  | [t], _, q3 =>
   rw [Afb] at q3
   have i0 : idx [t] (0 : Int) = some t := by rw [EX]; rfl
   have d0 : AS [t] 0 (0 : Int) = t := rfl
   rw [decide_eq_true (by simp)]
   simp only [i0, d0, JC]
   by_cases h : In n t
   ·rw [decide_eq_true h, decide_eq_true (q3.2 h)]
   ·rw [decide_eq_false h, decide_eq_false (fun h2 => h (q3.1 h2))]
end Go.Pev.Pl
end
section
namespace Go.Pev.Pl
open Tok
noncomputable instance (n : Int) (rings : List (List Int)) : Decidable (RF n rings) := Classical.propDecidable _
noncomputable instance (n : Int) (xs : List Int) : Decidable (RG n xs) := Classical.propDecidable _
end Go.Pev.Pl
end
end
section
section
namespace Go.Pev.Pl
open Tok
theorem AEV (N : Nat) (hN : N ≤ 64) (l : List Int) (hl : l.length < 1073741824) (h0 : ∀ t ∈ l, 0 ≤ t) (d1 : List (List Int)) (d3 d5 : Int) (d8 : List Int) (d9 : Int) (d10 : Bool) (d11 : Int) (d12 : List Int) (d13 d14 : Bool) (d15 d16 : List Int) (d17 : List (List Int)) (d18 : List Int) (d19 : List (List Int)) (d20 d21 : Bool) (d22 : List Int) (d23 d24 : Int) (d25 : Bool) :
  ∀ (m k cnt : Nat) (met : List Bool) (seen : List Int), k + m = l.length → MB N met seen → (l.drop k).Nodup → seen.length + m < 4611686018427387904 → m < cnt →
  ((∀ t ∈ l.drop k, t < (N : Int) → t ∉ seen) ∧ ∃ met', AW CS cnt ((N : Int), d1, met, d3, (seen.length : Int), d5, l, (k : Int), d8, d9, d10, d11, d12, d13, d14, d15, d16, d17, d18, d19, d20, d21, d22, d23, d24, d25, ()) =
    some (.inr (.inl ((N : Int), d1, met', d3, ((seen ++ (l.drop k).filter (fun t => decide (t < (N : Int)))).length : Int), d5, d8, d9, d10, d11, d12, d13, d14, d15, d16, d17, d18, d19, d20, d21, d22, d23, d24, d25, ()))) ∧ MB N met' (seen ++ (l.drop k).filter (fun t => decide (t < (N : Int))))) ∨
  (¬ (∀ t ∈ l.drop k, t < (N : Int) → t ∉ seen) ∧ AW CS cnt ((N : Int), d1, met, d3, (seen.length : Int), d5, l, (k : Int), d8, d9, d10, d11, d12, d13, d14, d15, d16, d17, d18, d19, d20, d21, d22, d23, d24, d25, ()) = some (.inl (false, ()))) := by
 intro m
 induction m with
 | zero =>
  intro k cnt met seen hk hm hn hsl hc
  obtain ⟨cnt, rfl⟩ : ∃ c, cnt = c + 1 := ⟨cnt - 1, by omega⟩
  have e : l.drop k = [] := List.drop_of_length_le (by omega)
  rw [e]
  refine .inl ⟨by simp, met, ?_, by simpa using hm⟩
  rw [AW, CS, AL, AM, decide_eq_false (by omega)]
  simp
 | succ m ih =>
  intro k cnt met seen hk hm hn hsl hc
  obtain ⟨cnt, rfl⟩ : ∃ c, cnt = c + 1 := ⟨cnt - 1, by omega⟩
  have hk' : k < l.length := by omega
  have e : l.drop k = l.getD k 0 :: l.drop (k + 1) := by
   rw [List.drop_eq_getElem_cons hk', List.getD_eq_getElem?_getD, List.getElem?_eq_getElem hk', Option.getD_some]
  have hpos : 0 ≤ l.getD k 0 := h0 _ (by rw [List.getD_eq_getElem?_getD, List.getElem?_eq_getElem hk', Option.getD_some]; exact List.getElem_mem hk')
  rw [AW, CS, AL, AM, decide_eq_true hk']
  simp only [Bf (0 : Int) hk']
  rw [e] at hn ⊢
  generalize l.getD k 0 = t at *
  rw [List.nodup_cons] at hn
  rw [AN (show k + 1 < 9223372036854775808 by omega), Ah]
  by_cases ht : t < (N : Int)
  ·rw [decide_eq_true ht]
   obtain ⟨q, rfl⟩ := Int.eq_ofNat_of_zero_le hpos
   have hq : q < met.length := by rw [hm.1]; omega
   have hmq := hm.2 q (by omega)
   simp only [Bf false hq, D0, PI, hmq]
   by_cases hs : (q : Int) ∈ seen
   ·rw [decide_eq_true hs]
    exact .inr ⟨fun h => h (q : Int) (by simp) ht hs, rfl⟩
   ·rw [decide_eq_false hs]
    simp only []
    have hm' : MB N (met.set q true) (seen ++ [(q : Int)]) := by
     refine ⟨by simp [hm.1], fun y hy => ?_⟩
     by_cases e2 : y = q
     ·subst e2
      simp [List.getD_eq_getElem?_getD, hq]
     ·have h3 := hm.2 y hy
      have e3 : ¬ (y : Int) = (q : Int) := by omega
      rw [List.getD_eq_getElem?_getD, List.getElem?_set_ne (Ne.symm e2), ← List.getD_eq_getElem?_getD, h3]
      simp [e3]
    have hlen : (((seen.length : Nat) : Int)) = ((seen.length : Nat) : Int) := rfl
    have hw : IntKind.wrap .i64 ((seen.length : Int) + 1) = ((seen ++ [(q : Int)]).length : Int) := by
     rw [Ag (by omega)]; simp
    rw [hw]
    have hiff : (∀ y ∈ (q : Int) :: l.drop (k + 1), y < (N : Int) → y ∉ seen) ↔ ∀ y ∈ l.drop (k + 1), y < (N : Int) → y ∉ seen ++ [(q : Int)] := by
     constructor
     ·intro h y hy hyn hm2
      simp only [List.mem_append, List.mem_singleton] at hm2
      rcases hm2 with h2 | rfl
      ·exact h y (List.mem_cons_of_mem _ hy) hyn h2
      ·exact hn.1 hy
     ·intro h y hy hyn hm2
      rcases List.mem_cons.1 hy with rfl | hy
      ·exact hs hm2
      ·exact h y hy hyn (by simp [hm2])
    rcases ih (k + 1) cnt _ _ (by omega) hm' hn.2 (by simp; omega) (by omega) with ⟨q1, met', q2, q3⟩ | ⟨q1, q2⟩
    ·refine .inl ⟨hiff.2 q1, met', ?_, ?_⟩
     ·rw [List.filter_cons_of_pos (by simpa using ht)]
      rw [q2, List.append_assoc]
      rfl
     ·rw [List.filter_cons_of_pos (by simpa using ht)]
      simpa using q3
    ·exact .inr ⟨fun h => q1 (hiff.1 h), q2⟩
  ·rw [decide_eq_false ht]
   simp only []
   have hiff : (∀ y ∈ t :: l.drop (k + 1), y < (N : Int) → y ∉ seen) ↔ ∀ y ∈ l.drop (k + 1), y < (N : Int) → y ∉ seen := by
    constructor
    ·intro h y hy; exact h y (List.mem_cons_of_mem _ hy)
    ·intro h y hy hyn
     rcases List.mem_cons.1 hy with rfl | hy
     ·exact absurd hyn ht
     ·exact h y hy hyn
   rcases ih (k + 1) cnt _ _ (by omega) hm hn.2 (by omega) (by omega) with ⟨q1, met', q2, q3⟩ | ⟨q1, q2⟩
   ·refine .inl ⟨hiff.2 q1, met', ?_, ?_⟩
    ·rw [List.filter_cons_of_neg (by simpa using ht)]
     exact q2
    ·rw [List.filter_cons_of_neg (by simpa using ht)]
     exact q3
   ·exact .inr ⟨fun h => q1 (hiff.1 h), q2⟩
theorem XH (N : Nat) (hN1 : 1 ≤ N) (hN : N ≤ 64) (rings : List (List Int)) (hlen : rings.length ≤ 64) (hr : ∀ l ∈ rings, l.length < 9223372036854775808 ∧ ∀ x ∈ l, -9223372036854775808 ≤ x ∧ x ≤ 9223372036854775807) :
  ∀ (ls : List (List Int)) (i cnt : Nat) (met : List Bool) (last : Int) (seen : List Int), rings.drop i = ls → i ≤ rings.length → MB N met seen → seen.length ≤ i * 1073741824 → ls.length < cnt →
  (okR (N : Int) seen last ls ∧ ∃ met' seen', AW CT cnt ((N : Int), rings, met, last, (seen.length : Int), (i : Int), ()) = some (.inr (.inl ((N : Int), rings, (seen'.length : Int), ()))) ∧ MB N met' seen' ∧ seen' = seen ++ ls.flatten.filter (fun t => decide (t < (N : Int)))) ∨
  (¬ okR (N : Int) seen last ls ∧ AW CT cnt ((N : Int), rings, met, last, (seen.length : Int), (i : Int), ()) = some (.inl (false, ()))) := by
 have hmany : 4294967296 < many := by simp only [many]; omega
 intro ls
 induction ls with
 | nil =>
  intro i cnt met last seen hd hi hm hsl hc
  obtain ⟨cnt, rfl⟩ : ∃ c, cnt = c + 1 := ⟨cnt - 1, by simp at hc; omega⟩
  have : rings.length ≤ i := by simpa using hd
  refine .inl ⟨trivial, met, seen, ?_, hm, by simp⟩
  rw [AW, CT, AL, AM, decide_eq_false (by omega)]
 | cons l ls ih =>
  intro i cnt met last seen hd hi hm hsl hc
  simp only [List.length_cons] at hc
  obtain ⟨cnt, rfl⟩ : ∃ c, cnt = c + 1 := ⟨cnt - 1, by omega⟩
  have hi' : i < rings.length := by
   refine Classical.byContradiction fun h => ?_
   rw [List.drop_of_length_le (by omega)] at hd
   cases hd
  rw [List.drop_eq_getElem_cons hi'] at hd
  simp only [List.cons.injEq] at hd
  obtain ⟨hd1, hd2⟩ := hd
  have hx : rings[i]? = some l := by rw [List.getElem?_eq_getElem hi', hd1]
  have hmem : l ∈ rings := List.mem_of_getElem? hx
  obtain ⟨hl, hlr⟩ := hr l hmem
  rw [AW, CT, AL, AM, decide_eq_true hi', okR]
  simp only [Ac hx, LJ]
  by_cases c2 : Rt l
  ·rw [decide_eq_true c2]
   have hl : l.length < 1073741824 := by have := c2.1; omega
   simp only [Bool.not_true]
   cases l with
   | nil =>
    rw [AL, Ai, decide_eq_true (by simp)]
    exact .inr ⟨fun h => h.1.2.1 rfl, rfl⟩
   | cons x tl =>
    rw [AL, Ai, decide_eq_false (by simp only [List.length_cons]; omega)]
    simp only [ARK (N : Int) (x :: tl) hl hlr c2.2.2]
    by_cases c4 : TI (N : Int) (x :: tl)
    ·rw [decide_eq_true c4]
     simp only [Bool.not_true, Vz]
     rw [APN _ _ (by simp) (by
      intro y hy
      simp only [List.mem_singleton] at hy
      subst hy
      obtain ⟨a, b, q1, q2⟩ := HC c2 (by simp)
      have := congrArg List.length q1
      rw [q2]
      simp only [List.length_cons, List.length_append] at this hl ⊢
      omega)]
     have hps := AAj c2 (by simp)
     have hps2 : ([plain (x :: tl)] = [x :: tl]) ↔ Fw (x :: tl) = x := by simpa using hps
     by_cases c3 : Fw (x :: tl) = x
     ·rw [decide_eq_true (hps2.2 c3)]
      have i0 : idx (x :: tl) (0 : Int) = some x := by rw [EX]; rfl
      simp only [Bool.not_true, i0, List.headD_cons, An]
      by_cases c1 : x ≤ last
      ·rw [decide_eq_true c1]
       exact .inr ⟨fun h => by omega, rfl⟩
      ·rw [decide_eq_false c1]
       simp only [Aj]
       have hRG : RG (N : Int) (x :: tl) := ⟨c2, by simp, c3, c4⟩
       rcases AEV N hN (x :: tl) hl (fun t ht => (c2.2.1 t ht).1) rings x (i : Int) (x :: tl) ((x :: tl).length : Int) false (N : Int) (x :: tl) true false (x :: tl) (plain (x :: tl)) [plain (x :: tl)] (x :: tl) [x :: tl] true false (x :: tl) x last false (x :: tl).length 0 many met seen (by omega) hm (by rw [List.drop_zero]; exact c2.2.2) (by omega) (by omega) with ⟨q1, met', q2, q3⟩ | ⟨q1, q2⟩
       ·rw [List.drop_zero] at q1 q3 q2
        have q2' : AW CS many ((N : Int), rings, met, x, (seen.length : Int), (i : Int), x :: tl, (0 : Int), x :: tl, ((x :: tl).length : Int), false, (N : Int), x :: tl, true, false, x :: tl, plain (x :: tl), [plain (x :: tl)], x :: tl, [x :: tl], true, false, x :: tl, x, last, false, ()) = _ := q2
        simp only [q2', AN (show i + 1 < 9223372036854775808 by omega)]
        have hfl : ((x :: tl).filter (fun t => decide (t < (N : Int)))).length ≤ (x :: tl).length := List.length_filter_le _ _
        rcases ih (i + 1) cnt met' x (seen ++ (x :: tl).filter (fun t => decide (t < (N : Int)))) hd2 (by omega) q3 (by rw [List.length_append]; omega) (by omega) with ⟨p1, met2, seen2, p2, p3, p4⟩ | ⟨p1, p2⟩
        ·refine .inl ⟨⟨hRG, by omega, q1, p1⟩, met2, seen2, p2, p3, ?_⟩
         rw [p4, List.flatten_cons, List.filter_append, List.append_assoc]
        ·exact .inr ⟨fun h => p1 h.2.2.2, p2⟩
       ·rw [List.drop_zero] at q1
        have q2' : AW CS many ((N : Int), rings, met, x, (seen.length : Int), (i : Int), x :: tl, (0 : Int), x :: tl, ((x :: tl).length : Int), false, (N : Int), x :: tl, true, false, x :: tl, plain (x :: tl), [plain (x :: tl)], x :: tl, [x :: tl], true, false, x :: tl, x, last, false, ()) = _ := q2
        simp only [q2']
        exact .inr ⟨fun h => q1 h.2.2.1, by trivial⟩
     ·rw [decide_eq_false (fun h => c3 (hps2.1 h))]
      exact .inr ⟨fun h => c3 h.1.2.2.1, rfl⟩
    ·rw [decide_eq_false c4]
     exact .inr ⟨fun h => c4 h.1.2.2.2, rfl⟩
  ·rw [decide_eq_false c2]
   exact .inr ⟨fun h => c2 h.1.1, rfl⟩
theorem Fl (n : Int) (rings : List (List Int)) (hlen : rings.length < 1073741824) (hr : ∀ l ∈ rings, l.length < 9223372036854775808 ∧ ∀ x ∈ l, -9223372036854775808 ≤ x ∧ x ≤ 9223372036854775807) :
  Mn ((n, (rings, ())), ()) = some (decide (RF n rings), ()) := by
 have hmany : 4294967296 < many := by simp only [many]; omega
 rw [AAZ, Mm]
 simp only [Ah, AL]
 by_cases h1 : n < 1
 ·rw [decide_eq_true h1, decide_eq_false (show ¬ RF n rings from fun h => by have := h.1.1; omega)]
 ·rw [decide_eq_false h1]
  simp only []
  by_cases h2 : 64 < n
  ·rw [decide_eq_true h2, decide_eq_false (show ¬ RF n rings from fun h => by have := h.1.2; omega)]
  ·rw [decide_eq_false h2]
   simp only []
   by_cases h3 : n < (rings.length : Int)
   ·rw [decide_eq_true h3, decide_eq_false (show ¬ RF n rings from fun h => by
     have := AWs (by omega) h.2.1 (by omega) (by omega)
     omega)]
   ·rw [decide_eq_false h3]
    obtain ⟨N, rfl⟩ := Int.eq_ofNat_of_zero_le (show 0 ≤ n by omega)
    have f1 : JI (N : Int) = true := (JH _).2 (by omega)
    have f2 : ile (N : Int) (N : Int) = true := by rw [An]; simp
    simp only [f1, f2, Bool.and_self, Bool.and_true, Aj]
    have hMB : MB N (JK (AJ (N : Int)) false) [] := by
     refine ⟨by simp [JK, UL], fun k hk => ?_⟩
     simp [JK, UL, hk]
    rcases XH N (by omega) (by omega) rings (by omega) hr rings 0 many _ (-1) [] (by simp) (by omega) hMB (by simp) (by omega) with ⟨p1, met, seen, p2, p3, p4⟩ | ⟨p1, p2⟩
    ·have p2' : AW CT many ((N : Int), rings, JK (AJ (N : Int)) false, -1, (0 : Int), (0 : Int), ()) = _ := p2
     simp only [p2', Ai]
     obtain ⟨q1, q2⟩ := AZg p1 (by simp)
     rw [← p4] at q1
     have hsub : ∀ x ∈ seen, x ∈ (List.range N).map (fun (k : Nat) => (k : Int)) := by
      intro x hx
      rw [p4] at hx
      simp only [List.nil_append, List.mem_filter, List.mem_flatten, decide_eq_true_eq] at hx
      obtain ⟨⟨l, hl, hxl⟩, hxn⟩ := hx
      have := ((q2 l hl).1.2.1 x hxl).1
      rw [List.mem_map]
      exact ⟨x.toNat, by rw [List.mem_range]; omega, by omega⟩
     have hv : ∀ v, v ∈ seen ↔ (v < (N : Int) ∧ v ∈ rings.flatten) := fun v => by rw [p4, List.nil_append, List.mem_filter, decide_eq_true_eq, and_comm]
     have hS : Sz (N : Int) := ⟨by omega, by omega⟩
     by_cases hc : (seen.length : Int) = (N : Int)
     ·rw [decide_eq_true hc, decide_eq_true]
      refine ⟨hS, p1, fun v v1 v2 => ?_⟩
      have := Qd q1 hsub (by simp; omega) v (by rw [List.mem_map]; exact ⟨v.toNat, by rw [List.mem_range]; omega, by omega⟩)
      exact ((hv v).1 this).2
     ·rw [decide_eq_false hc, decide_eq_false]
      rintro ⟨_, _, h⟩
      have a1 := Cj q1 hsub
      have hrn : ((List.range N).map (fun (k : Nat) => (k : Int))).Nodup := by
       rw [List.Nodup, List.pairwise_map]
       exact List.nodup_range.imp fun h e => h (by omega)
      have a2 := Cj (a := (List.range N).map (fun (k : Nat) => (k : Int))) (b := seen) hrn fun x hx => by
       rw [List.mem_map] at hx
       obtain ⟨k, hk, rfl⟩ := hx
       rw [List.mem_range] at hk
       exact (hv _).2 ⟨by omega, h (k : Int) (by omega) (by omega)⟩
      simp only [List.length_map, List.length_range] at a1 a2
      omega
    ·have p2' : AW CT many ((N : Int), rings, JK (AJ (N : Int)) false, -1, (0 : Int), (0 : Int), ()) = _ := p2
     simp only [p2']
     rw [decide_eq_false (fun h => p1 h.2.1)]
end Go.Pev.Pl
end
section
namespace Go.Pev.Pl
open Tok
theorem WA (n : Int) (rings : List (List Int)) (v : Int) (hlen : rings.length < 1073741824) (hr : ∀ l ∈ rings, l.length < 9223372036854775808) : Ht ((n, (rings, ())), v, ()) = some (plc rings v, ()) := by
 rw [AAy, Mv]
 have e := DC (step := Du) (fun i => (v, n, rings, (i : Int), ())) rings (fun l => decide (v ∈ l)) (fun i => .inl ((i : Int), ())) (.inr (.inl ())) (by omega)
  (fun i l hi hx => by
   have hl := hr l (List.mem_of_getElem? hx)
   rw [Du, AL, AM, decide_eq_true hi]
   simp only [Ac hx, LL l v (by omega)]
   rw [AN (by omega), An]
   by_cases h : v ∈ l
   ·obtain ⟨k, e, _⟩ := AJS h
    rw [e, decide_eq_true (by omega), decide_eq_true h]; rfl
   ·rw [QS h, decide_eq_false (by omega), decide_eq_false h]; rfl)
  (by rw [Du, AL, AM, decide_eq_false (by omega)])
 have e' : AT Du many (v, n, rings, (0 : Int), ()) = _ := e
 simp only [e', plc]
 cases rings.any (fun l => decide (v ∈ l)) <;> rfl
end Go.Pev.Pl
end
section
namespace Go.Pev.Pl
open Tok
theorem AZF (rest : List (List Int)) (r : List Int) (hlen : rest.length < 1073741824) (hne : ∀ l ∈ rest, l ≠ []) (hp : plain r ≠ []) : AGA (rest, r, ()) = some (AAh rest (plain r), ()) := by
 rw [AN5, Xm]
 simp only [Vz]
 generalize plain r = p at *
 have e := DC (step := HB) (fun i => (rest, p, (i : Int), ())) rest (fun x => !decide (hd x < hd p)) (fun i => .inl (rest, p, (i : Int), ())) (.inl (rest, p, (rest.length : Int), ())) (by omega)
  (fun i x hi hx => by
   rw [HB, AL, AM, decide_eq_true hi]
   simp only [Ac hx, AXI (hne x (List.mem_of_getElem? hx)), AXI hp, AfG, Ah]
   rw [AN (by omega)]
   by_cases h : hd x < hd p
   ·rw [decide_eq_true h]; rfl
   ·rw [decide_eq_false h]; rfl)
  (by rw [HB, AL, AM, decide_eq_false (by omega)])
 have e' : AT HB many (rest, p, (0 : Int), ()) = _ := e
 have hk : (if rest.any (fun x => !decide (hd x < hd p)) then (.inl (rest, p, ((rest.findIdx fun x => !decide (hd x < hd p) : Nat) : Int), ()) : (List (List Int) × List Int × Int × Unit) ⊕ Unit) else .inl (rest, p, (rest.length : Int), ())) = .inl (rest, p, ((rest.findIdx fun x => !decide (hd x < hd p) : Nat) : Int), ()) := by
  split
  ·rfl
  ·rename_i h
   rw [List.findIdx_eq_length.2 fun x hx => by
    refine Classical.byContradiction fun hc => h (List.any_eq_true.2 ⟨x, hx, by simpa using hc⟩)]
 rw [e', hk]
 have hle : (rest.findIdx fun x => !decide (hd x < hd p)) ≤ rest.length := List.findIdx_le_length
 rw [AAh]
 generalize (rest.findIdx fun x => !decide (hd x < hd p)) = k at *
 simp only [Kv hle, EM hle]
 rw [A2 (by simp only [AL, List.length_nil, List.length_take]; omega)]
 simp only []
 rw [A2 (by simp only [AL, Bv, List.length_append, List.length_cons, List.length_nil, List.length_take]; omega)]
 simp only []
 rw [A2 (by simp only [AL, Bv, List.length_append, List.length_cons, List.length_nil, List.length_take, List.length_drop]; omega)]
 simp only [Bv, List.nil_append, List.append_assoc, List.singleton_append]
theorem Nl (l : List (List Int)) (i : Nat) (hi : i < l.length) (hlen : l.length < 1073741824) : D8 (l, (i : Int), ()) = some (l.eraseIdx i, ()) := by
 rw [Pn, Ho]
 rw [AN (by omega)]
 simp only [Kv (Nat.le_of_lt hi), EM (show i + 1 ≤ l.length by omega)]
 rw [A2 (by simp only [AL, List.length_nil, List.length_take]; omega)]
 simp only []
 rw [A2 (by simp only [AL, Bv, List.length_append, List.length_nil, List.length_take, List.length_drop]; omega)]
 simp only [Bv, List.nil_append, List.eraseIdx_eq_take_drop_succ]
end Go.Pev.Pl
end
section
namespace Go.Pev.Pl
open Tok
theorem AWE (n : Int) (rings : List (List Int)) (v : Int) (hD : Dom rings) : tof ((n, (rings, ())), v, ()) = some (if RF n rings ∧ In n v then plc rings v else -1, ()) := by
 rw [Abv, AWF]
 simp only [Xc, N8 n rings hD.1 hD.2, G4 n rings v hD.1 (fun l hl => (hD.2 l hl).1)]
 by_cases h1 : In n v
 ·by_cases h2 : RF n rings <;> simp [h1, h2]
 ·simp [h1]
end Go.Pev.Pl
end
section
namespace Go.Pev.Pl
open Go.RowKit Tok
end Go.Pev.Pl
end
section
namespace Go.Pev.Pl
open Tok
end Go.Pev.Pl
end
section
namespace Go.Pev.Pl
open Tok
set_option linter.unusedSimpArgs false
theorem APR {n : Int} {rings : List (List Int)} {u v : Int} (h : FR n rings) (iu : In n u) (iv : In n v) (hp : plc rings u = plc rings v) :
  Kf ((n, (rings, ())), u, v, ()) = some (n, rings, 5, ()) ∧ LZ ((n, (rings, ())), u, v, ()) = some (n, rings, 5, ()) := by
 have hD := h.dom
 have hRF := He.2 h
 constructor
 ·rw [G7, GS]
  simp only [Gv n rings u v hD, hRF, iu, iv, and_self, if_true, Ai, G4 n rings _ hD.1 (fun l hl => (hD.2 l hl).1), hp, decide_true, Bool.not_true]
 ·rw [I9, HH]
  simp only [Fl n rings hD.1 hD.2, hRF, JC, iu, iv, decide_true, Bool.not_true, WA n rings _ hD.1 (fun l hl => (hD.2 l hl).1), Ai, hp]
theorem AeB {n : Int} {rings : List (List Int)} {u v : Int} {i j : Nat} {A B : List Int} (h : FR n rings) (iu : In n u) (iv : In n v) (hi : rings[i]? = some A) (hj : rings[j]? = some B) (hu : u ∈ A) (hv : v ∈ B) (hij : i ≠ j) :
  ∃ zs rest, Kf ((n, (rings, ())), u, v, ()) = some (n, zs, 0, ()) ∧ LZ ((n, (rings, ())), u, v, ()) = some (n, zs, 0, ()) ∧ FR n zs ∧ rings.Perm (A :: B :: rest) ∧ zs.Perm (plain (A1 n A B u v) :: rest) ∧ Dis n A B := by
 have hD := h.dom
 have hRF := He.2 h
 have rA := h.rg A (List.mem_of_getElem? hi)
 have rB := h.rg B (List.mem_of_getElem? hj)
 have hil := (List.getElem?_eq_some_iff.1 hi).1
 have hjl := (List.getElem?_eq_some_iff.1 hj).1
 have pu : plc rings u = (i : Int) := h.AAi hi iu.2.2.2 hu
 have pv : plc rings v = (j : Int) := h.AAi hj iv.2.2.2 hv
 have hperm : rings.Perm (A :: B :: (rings.eraseIdx (max i j)).eraseIdx (min i j)) := by
  rcases Nat.lt_or_gt_of_ne hij with g | g
  ·rw [Nat.max_eq_right (by omega), Nat.min_eq_left (by omega)]
   exact ID g hi hj
  ·rw [Nat.max_eq_left (by omega), Nat.min_eq_right (by omega)]
   exact (ID g hj hi).trans (List.Perm.swap _ _ _)
 have hdis : Dis n A B := by
  have := JL hperm h.dis
  rw [List.pairwise_cons] at this
  exact this.1 B (by simp)
 obtain ⟨l1, l2, l3, huv, ho⟩ := NA rA.2.2.2 rB.2.2.2 hu hv iu iv hdis
 obtain ⟨hRG, hrot⟩ := ADV l1
 have hall : A1 n A B u v = u :: Db n u v :: (Au B v ++ Db n v u :: (Au A u).tail) := rfl
 have lA : (Au A u).length ≤ 1000 := by rw [← (B5 hu).perm.length_eq]; exact rA.1.1
 have lB : (Au B v).length ≤ 1000 := by rw [← (B5 hv).perm.length_eq]; exact rB.1.1
 have hsub : ((rings.eraseIdx (max i j)).eraseIdx (min i j)).Sublist rings := (List.eraseIdx_sublist _ _).trans (List.eraseIdx_sublist _ _)
 have hw1 : D8 (rings, ((max i j : Nat) : Int), ()) = some (rings.eraseIdx (max i j), ()) := Nl _ _ (by omega) hD.1
 have hel : (rings.eraseIdx (max i j)).length = rings.length - 1 := by rw [List.length_eraseIdx]; rw [if_pos (by omega)]
 have hw2 : D8 (rings.eraseIdx (max i j), ((min i j : Nat) : Int), ()) = some ((rings.eraseIdx (max i j)).eraseIdx (min i j), ()) := Nl _ _ (by omega) (by have := hD.1; omega)
 have hdrop : CJ (fun k => decide ((k : Int) ∈ [(i : Int), (j : Int)])) 0 rings = (rings.eraseIdx (max i j)).eraseIdx (min i j) := by
  rcases Nat.lt_or_gt_of_ne hij with g | g
  ·rw [Nat.max_eq_right (by omega), Nat.min_eq_left (by omega)]
   exact KE _ i j g rings 0 (by omega) fun k _ => decide_eq_decide.2 (by simp only [List.mem_cons, List.not_mem_nil, or_false]; omega)
  ·rw [Nat.max_eq_left (by omega), Nat.min_eq_right (by omega)]
   exact KE _ j i g rings 0 (by omega) fun k _ => decide_eq_decide.2 (by simp only [List.mem_cons, List.not_mem_nil, or_false]; omega)
 have hrl : ((rings.eraseIdx (max i j)).eraseIdx (min i j)).length ≤ rings.length := hsub.length_le
 generalize (rings.eraseIdx (max i j)).eraseIdx (min i j) = rest at *
 have hupr : rest.Pairwise (fun a b => hd a < hd b) := h.up.sublist hsub
 have hner : ∀ l ∈ rest, l ≠ [] := fun l hl => (h.rg l (hsub.subset hl)).2.1
 have hdd := JL hperm h.dis
 rw [List.pairwise_cons, List.pairwise_cons] at hdd
 have hheads : ∀ x ∈ rest, hd x ≠ hd (plain (A1 n A B u v)) := by
  intro x hx e
  have g1 := NQ hRG
  have g2 := (l3 _ g1.2.2.2).1 (hrot.perm.mem_iff.2 (T7 hRG.2.1))
  have g3 : hd (plain (A1 n A B u v)) ∈ x := e ▸ T7 (hner x hx)
  rcases g2 with g | g
  ·exact hdd.1 x (by simp [hx]) _ g g1.2.2.2 g3
  ·exact hdd.2.1 x hx _ g g1.2.2.2 g3
 have hup := AWg hupr hheads
 have hpz := AF9 rest (plain (A1 n A B u v))
 refine ⟨AAh rest (plain (A1 n A B u v)), rest, ?_, ?_, AXf h hperm hRG (fun t ht => by rw [← hrot.perm.mem_iff]; exact l3 t ht) hpz hup, hperm, hpz, hdis⟩
 ·obtain ⟨ys, y1, y2, y3⟩ := AFI n rings [(i : Int), (j : Int)] [A1 n A B u v] hD.1 (by simp) (by simp) (fun l hl => (h.rg l hl).2.1) (by simp; exact hRG.2.1)
  have hys : ys = AAh rest (plain (A1 n A B u v)) := by
   refine Vr hup (y2.trans ?_) y3
   rw [hdrop]
   exact (List.perm_append_comm (l₁ := rest) (l₂ := [plain (A1 n A B u v)])).trans hpz.symm
  rw [hys] at y1
  rw [G7, GS]
  have s1 : CM (Au A u) (0 : Int) (1 : Int) = some [u] := by
   have := AIC (xs := Au A u) (l := 0) (h := 1) (by omega) (by rw [l2]; simp)
   rw [l2] at this ⊢
   exact this
  have s2 : CM (Au A u) (1 : Int) (AO (Au A u)) = some (Au A u).tail := by
   have := EM (xs := Au A u) (l := 1) (by rw [l2]; simp)
   rw [List.drop_one] at this
   exact this
  have d1 : DU 0 (AJ (AO [u])) (Au A u) = [u] := by rw [l2]; rfl
  have d2 : DU 1 (AJ (AO (Au A u).tail)) (Au A u) = (Au A u).tail := by
   rw [DU, AL, UL, List.drop_one, List.take_length]
  have hcat : IG ([[u], [Db n u v], Au B v, [Db n v u], (Au A u).tail], ()) = some (A1 n A B u v, ()) := by
   rw [Ly _ (by simp) (by simp; omega)]
   simp [A1]
  have ne : ((i : Int)) ≠ (j : Int) := by omega
  simp only [Gv n rings u v hD, hRF, iu, iv, and_self, if_true, Ai, G4 n rings _ hD.1 (fun l hl => (hD.2 l hl).1), pu, pv, ne, decide_true, decide_false, Bool.not_true, Ac hi, Ac hj, AF6, IA, rA.1, rB.1, hu, hv, s1, s2, AMq, d1, d2, hcat, y1]
 ·rw [I9, HH]
  have s2 : CM (Au A u) (1 : Int) (AO (Au A u)) = some (Au A u).tail := by
   have := EM (xs := Au A u) (l := 1) (by rw [l2]; simp)
   rw [List.drop_one] at this
   exact this
  have d2 : DU 1 (AJ (AO (Au A u).tail)) (Au A u) = (Au A u).tail := by
   rw [DU, AL, UL, List.drop_one, List.take_length]
  have ne : ((i : Int)) ≠ (j : Int) := by omega
  have f1 : fits (AO [u, Db n u v] + AO (Au B v)) = true := A2 (by simp only [AL, List.length_cons, List.length_nil]; omega)
  have f2 : fits (AO (Aq [u, Db n u v] (Au B v)) + AO [Db n v u]) = true := A2 (by simp only [AL, Bv, List.length_append, List.length_cons, List.length_nil]; omega)
  have f3 : fits (AO (Aq (Aq [u, Db n u v] (Au B v)) [Db n v u]) + AO (Au A u).tail) = true := A2 (by simp only [AL, Bv, List.length_append, List.length_cons, List.length_nil, List.length_tail]; omega)
  have hcat : Aq (Aq (Aq [u, Db n u v] (Au B v)) [Db n v u]) (Au A u).tail = A1 n A B u v := by simp [Bv, A1]
  have hput : AGA (rest, A1 n A B u v, ()) = some (AAh rest (plain (A1 n A B u v)), ()) := AZF rest _ (by have := hD.1; omega) hner hRG.2.1
  simp only [Fl n rings hD.1 hD.2, hRF, JC, iu, iv, decide_true, Bool.not_true, WA n rings _ hD.1 (fun l hl => (hD.2 l hl).1), pu, pv, Ai, ne, decide_false, Ac hi, Ac hj, O4 A u (by have := rA.1.1; omega), O4 B v (by have := rB.1.1; omega), IA, rA.1, rB.1, hu, hv, and_self, if_true, AHA, f1, f2, s2, d2, f3, AeT, AeS, hw1, hw2, hcat, hput]
theorem AEv {n : Int} {rings : List (List Int)} {u v : Int} (hD : Dom rings) (h : ¬ (RF n rings ∧ In n u ∧ In n v)) :
  ∃ e, e ≠ 0 ∧ (∃ b, e = b ∧ (b = 1 ∨ b = 10)) ∧ Kf ((n, (rings, ())), u, v, ()) = some (n, rings, e, ()) ∧ LZ ((n, (rings, ())), u, v, ()) = some (n, rings, e, ()) := by
 by_cases h1 : RF n rings
 ·have h2 : ¬ (In n u ∧ In n v) := fun h2 => h ⟨h1, h2⟩
  refine ⟨10, by omega, ⟨10, rfl, .inr rfl⟩, ?_, ?_⟩
  ·rw [G7, GS]
   simp only [Gv n rings u v hD, h1, h2, if_true, if_false, Ai]
   rfl
  ·rw [I9, HH]
   simp only [Fl n rings hD.1 hD.2, h1, JC, decide_true, Bool.not_true]
   by_cases hu : In n u
   ·have hv : ¬ In n v := fun hv => h2 ⟨hu, hv⟩
    simp [hu, hv]
   ·simp [hu]
 ·refine ⟨1, by omega, ⟨1, rfl, .inl rfl⟩, ?_, ?_⟩
  ·rw [G7, GS]
   simp only [Gv n rings u v hD, h1, if_false, Ai]
   rfl
  ·rw [I9, HH]
   simp only [Fl n rings hD.1 hD.2, h1, decide_false, Bool.not_false]
theorem ADN {n : Int} {rings : List (List Int)} (u v : Int) (hD : Dom rings) : ∃ zs e, Kf ((n, (rings, ())), u, v, ()) = some (n, zs, e, ()) ∧ LZ ((n, (rings, ())), u, v, ()) = some (n, zs, e, ()) ∧ Dom zs := by
 by_cases h : RF n rings ∧ In n u ∧ In n v
 ·obtain ⟨h1, iu, iv⟩ := h
  have hF := He.1 h1
  obtain ⟨i, A, pu, hi, hu, _⟩ := LK (hF.cov u iu)
  obtain ⟨j, B, pv, hj, hv, _⟩ := LK (hF.cov v iv)
  by_cases hij : i = j
  ·obtain ⟨q1, q2⟩ := APR hF iu iv (by rw [pu, pv, hij])
   exact ⟨_, _, q1, q2, hD⟩
  ·obtain ⟨zs, rest, q1, q2, q3, _⟩ := AeB hF iu iv hi hj hu hv hij
   exact ⟨_, _, q1, q2, q3.dom⟩
 ·obtain ⟨e, _, _, q1, q2⟩ := AEv hD h
  exact ⟨_, _, q1, q2, hD⟩
end Go.Pev.Pl
end
section
namespace Go.Pev.Pl
open Tok
set_option linter.unusedSimpArgs false
def sel (l : List Edge) (bs : List Bool) : List Edge := ((l.zip bs).filter fun p => p.2).map fun p => p.1
end Go.Pev.Pl
end
section
namespace Go.Pev.Pl
open Tok
instance (n v : Int) : Decidable (In n v) := inferInstanceAs (Decidable (_ ∧ _))
instance (n : Int) : Decidable (Sz n) := inferInstanceAs (Decidable (_ ∧ _))
end Go.Pev.Pl
end
section
namespace Go.Pev.Pl
instance (xs : List Int) : Decidable (Rt xs) := inferInstanceAs (Decidable (_ ∧ _ ∧ _))
end Go.Pev.Pl
end
section
namespace Go.Pev.Pl
open Tok
noncomputable instance (n : Int) (xs : List Int) : Decidable (TI n xs) := Classical.propDecidable _
end Go.Pev.Pl
end
section
namespace Go.Pev.Pl
open Tok
noncomputable instance (n : Int) (rings : List (List Int)) : Decidable (RF n rings) := Classical.propDecidable _
noncomputable instance (n : Int) (xs : List Int) : Decidable (RG n xs) := Classical.propDecidable _
end Go.Pev.Pl
end
section
namespace Go.Pev.Pl
open Tok
theorem Vn (n : Int) (rings : List (List Int)) (l : List (Int × Int × Unit)) (hD : Dom rings) (hs : l.length < 9223372036854775808) : P1 ((n, (rings, ())), l, ()) = some (ADS n rings (l.all fun e => decide (In n e.1) && decide (In n e.2.1)), ()) := by
 rw [Ym, Mg]
 simp only [Fl n rings hD.1 hD.2, ADS]
 by_cases h : RF n rings
 ·simp only [h, decide_true, Bool.not_true, if_true]
  have e := DC (step := Dn) (fun i => (l, n, rings, (i : Int), ())) l (fun e => !(decide (In n e.1) && decide (In n e.2.1))) (fun _ => .inl ((10 : Int), ())) (.inr (.inl ())) hs
   (fun i x hi hx => by
    rw [Dn, AL, AM, decide_eq_true hi]
    simp only [Ac hx, Ah, An]
    rw [AN (by omega)]
    have q1 := AVz (v := x.1) h.1
    have q2 := AVz (v := x.2.1) h.1
    by_cases c1 : x.1 < 0
    ·rw [decide_eq_true c1, Bool.true_or] at q1
     have : decide (In n x.1) = false := by simpa using q1.symm
     simp [c1, this]
    ·by_cases c2 : n ≤ x.1
     ·rw [decide_eq_true c2, Bool.or_true] at q1
      have : decide (In n x.1) = false := by simpa using q1.symm
      simp [c1, c2, this]
     ·rw [decide_eq_false c1, decide_eq_false c2] at q1
      have g1 : decide (In n x.1) = true := by simpa using q1.symm
      by_cases c3 : x.2.1 < 0
      ·rw [decide_eq_true c3, Bool.true_or] at q2
       have : decide (In n x.2.1) = false := by simpa using q2.symm
       simp [c1, c2, c3, this]
      ·by_cases c4 : n ≤ x.2.1
       ·rw [decide_eq_true c4, Bool.or_true] at q2
        have : decide (In n x.2.1) = false := by simpa using q2.symm
        simp [c1, c2, c3, c4, this]
       ·rw [decide_eq_false c3, decide_eq_false c4] at q2
        have g2 : decide (In n x.2.1) = true := by simpa using q2.symm
        simp [c1, c2, c3, c4, g1, g2])
   (by rw [Dn, AL, AM, decide_eq_false (by omega)])
  have e' : AT Dn many (l, n, rings, (0 : Int), ()) = _ := e
  rw [e', List.any_eq_not_all_not]
  simp only [Bool.not_not]
  cases l.all fun e => decide (In n e.1) && decide (In n e.2.1) <;> rfl
 ·simp [h]
end Go.Pev.Pl
end
section
namespace Go.Pev.Pl
open Tok
set_option linter.unusedSimpArgs false
end Go.Pev.Pl
end
section
namespace Go.Pev.Pl
open Tok
set_option linter.unusedSimpArgs false
theorem AEu {n : Int} (l : List Edge) (base : List Edge) (hs : l.length < 1073741824) (ha : ∀ e ∈ l, In n e.1 ∧ In n e.2.1) :
  ∀ (m i cnt : Nat) (rings : List (List Int)) (taken : List Bool), i + m = l.length → taken.length = i → FC n rings (base ++ l.take i) → m < cnt →
  ∃ zs taken', AW Bs cnt (l, n, rings, (0 : Int), taken, (i : Int), ()) = some (.inl (n, zs, (0 : Int), taken', ())) ∧ FC n zs (base ++ l) := by
 intro m
 induction m with
 | zero =>
  intro i cnt rings taken hi ht h hc
  obtain ⟨cnt, rfl⟩ : ∃ c, cnt = c + 1 := ⟨cnt - 1, by omega⟩
  rw [List.take_of_length_le (by omega)] at h
  refine ⟨rings, taken, ?_, h⟩
  rw [AW, Bs, AL, AM, decide_eq_false (by omega)]
 | succ m ih =>
  intro i cnt rings taken hi ht h hc
  obtain ⟨cnt, rfl⟩ : ∃ c, cnt = c + 1 := ⟨cnt - 1, by omega⟩
  have hi' : i < l.length := by omega
  have hx : l[i]? = some l[i] := List.getElem?_eq_getElem hi'
  obtain ⟨iu, iv⟩ := ha _ (List.getElem_mem hi')
  obtain ⟨zs, q, e1, e2, e3⟩ := ALw h iu iv
  obtain ⟨zs', q', f1, f2, _⟩ := ADN (n := n) (rings := rings) l[i].1 l[i].2.1 h.fr.dom
  rw [e1] at f1
  cases f1
  rw [AW, Bs, AL, AM, decide_eq_true hi']
  simp only [Ac hx, f2]
  rw [AN (by omega), A2 (by simp only [AL, List.length_cons, List.length_nil]; omega)]
  have htk : l.take (i + 1) = l.take i ++ [l[i]] := List.take_succ_eq_append_getElem hi'
  refine ih (i + 1) cnt zs _ (by omega) (by simp [Bv, ht]) ?_ (by omega)
  rw [htk, ← List.append_assoc]; exact e2
theorem Adq {N : Nat} (h1 : 1 ≤ N) (hN : N ≤ 64) (l : List Edge) (hs : l.length < 1073741824) (ha : ∀ e ∈ l, In (N : Int) e.1 ∧ In (N : Int) e.2.1) :
  ∃ zs, Ads ((N : Int), l, ()) = some (((N : Int), (zs, ())), 0, ()) ∧ FC (N : Int) zs l := by
 have hF := ADX h1 hN
 have hall : (l.all fun e => decide (In (N : Int) e.1) && decide (In (N : Int) e.2.1)) = true := by
  rw [List.all_eq_true]
  intro e he
  obtain ⟨h1, h2⟩ := ha e he
  simp [h1, h2]
 obtain ⟨zs, bs, e, h2⟩ := AEu l [] hs ha l.length 0 many (BL N) [] (by omega) rfl (by simpa using hF) (by simp only [many]; omega)
 have e' : AT Bs many (l, (N : Int), BL N, (0 : Int), [], (0 : Int), ()) = _ := (Aj _ _ _).trans e
 have hE : ADS (N : Int) (BL N) true = 0 := by
  unfold ADS
  simp [He.2 hF.fr]
 have hL : J3 (((N : Int), (BL N, ())), l, ()) = some (((N : Int), (zs, ())), bs, 0, ()) := by
  rw [Om, I8]
  simp only [Vn (N : Int) (BL N) l hF.fr.dom (by omega), hall]
  rw [hE]
  simp only [Bb, Bool.not_true, e']
 refine ⟨zs, ?_, by simpa using h2⟩
 have hm : Tj ((N : Int), ()) = some ((N : Int), BL N, 0, ()) := by
  rw [AT0]
  unfold J1
  rw [if_pos (show Sz (N : Int) from ⟨by omega, by omega⟩), Int.toNat_natCast]
 rw [AWw, AJx]
 simp only [hm, Bb, Bool.not_true, hL]
end Go.Pev.Pl
end
section
namespace Go.Pev.Pl
open Tok
set_option linter.unusedSimpArgs false
set_option maxRecDepth 100000
theorem AMb {N : Nat} (ts : List Tie) (hs : ts.length ≤ 400) (h : oks N ts) : GR (((N : Int), (ts, ())), (0 : Int), ()) = some (trs ts ts.length, ()) := by
 rw [OA, Iw]
 have e := B9 (step := Br) (fun i (a : List Edge) => ((0 : Int), (N : Int), ts, a, (i : Int), ())) (List.range ts.length) (fun i a => .inl (if (ts.getD i zT).2.2.2.1 = true then a ++ [ed (ts.getD i zT)] else a)) (fun a => .inl (a, ())) (fun i a => a.length ≤ i) (by simp; omega)
  (fun i x a hi hx ha => by
   refine ⟨fun m' h' => ?_, fun r h' => (by cases h')⟩
   cases h'
   have := BO hx
   subst this
   rw [List.length_range] at hi
   have hlv := (h x (by simp [hi])).2.2.2.1
   constructor
   ·rw [Br, AL, AM, decide_eq_true hi]
    simp only [Bf zT hi, AL]
    have hfit : fits ((a.length : Int) + (([((ts.getD x zT).1, (ts.getD x zT).2.1, ())] : List Edge).length : Int)) = true := A2 (by simp; omega)
    rw [AN (by omega), An, decide_eq_true hlv]
    cases ht4 : (ts.getD x zT).2.2.2.1
    ·simp
    ·simp only [hfit]
     simp [ed, Aq]
   ·split
    ·rw [List.length_append]; simp; omega
    ·omega)
  (fun a _ => by rw [Br, List.length_range, AL, AM, decide_eq_false (by omega)]) [] (Nat.le_refl _)
 have e' : AT Br many ((0 : Int), (N : Int), ts, [], (0 : Int), ()) = _ := e
 simp only [e']
 rw [BA (fun i a => if (ts.getD i zT).2.2.2.1 = true then a ++ [ed (ts.getD i zT)] else a)]
 rfl
theorem AKv {N : Nat} (h1 : 1 ≤ N) (hN : N ≤ 64) (ts : List Tie) (hs : ts.length ≤ 400) (h : oks N ts) (hr : Bg (((N : Int), (ts, ())), ()) = some (true, ())) :
  ∃ zs, Lm (((N : Int), (ts, ())), (0 : Int), ()) = some (((N : Int), (zs, ())), 0, ()) ∧ FC (N : Int) zs (trs ts ts.length) := by
 have hl := Pt ts ts.length
 obtain ⟨zs, e, hF⟩ := Adq h1 hN (trs ts ts.length) (by omega) (YT hN h)
 refine ⟨zs, ?_, hF⟩
 rw [WZ, J7]
 simp only [hr, Bool.not_true, AMb ts hs h, e]
end Go.Pev.Pl
end
section
namespace Go.Pev.Pl
open Tok
theorem ANq {N : Nat} (h1 : 1 ≤ N) (hN : N ≤ 64) {ts : List Tie} (hs : ts.length ≤ 400) (ho : oks N ts) {out : List Int} (hc : Kd (N : Int) (trs ts ts.length) out) :
  Bg (((N : Int), (ts, ())), ()) = some (decide ((cnt out N : Int) = (N : Int) - (trs ts ts.length).length), ()) := by
 have R := QP N hN ts hs
 rw [if_pos ho] at R
 have hin := YT hN ho
 have hlen := Pt ts ts.length
 obtain ⟨o2, e2, c2⟩ := B7 (N : Int) (trs ts ts.length) ⟨by omega, by omega⟩ (by omega) hin
 have := Kd.unique h1 hN hc c2
 subst this
 have hol : out.length = N := by have := hc.len; omega
 rw [Ex, EA]
 simp only [Ah, AL]
 rw [decide_eq_false (show ¬ (N : Int) < 1 by omega), decide_eq_false (show ¬ 64 < (N : Int) by omega), decide_eq_false (show ¬ 400 < (ts.length : Int) by omega)]
 simp only [R, e2, Ns N hN _ _ out hol, Ai]
 rw [Ag (by omega)]
end Go.Pev.Pl
end
section
namespace Go.Pev.Pl
open Tok
set_option linter.unusedSimpArgs false
theorem Con.perm {l l' : List Edge} (h : ∀ e, e ∈ l ↔ e ∈ l') {a b : Int} : Con l a b ↔ Con l' a b :=
 ⟨fun c => c.mono fun e he => ⟨e, (h e).1 he, .inl ⟨rfl, rfl⟩⟩, fun c => c.mono fun e he => ⟨e, (h e).2 he, .inl ⟨rfl, rfl⟩⟩⟩
theorem Kd.congr {n : Int} {l l' : List Edge} {out : List Int} (h : ∀ a b, Con l a b ↔ Con l' a b) (hc : Kd n l out) : Kd n l' out :=
 ⟨hc.len, fun a b ia ib => (hc.same a b ia ib).trans (h a b), hc.isin, fun a ia => (h a _).1 (hc.con a ia), fun a b ia ib c => hc.least a b ia ib ((h a b).2 c)⟩
end Go.Pev.Pl
end
section
namespace Go.Pev.Pl
open Tok
set_option linter.unusedSimpArgs false
def Ku (x : Edge) (b : Bool) : Tie := (x.1, x.2.1, 0, b, ())
def VH (ts : List Tie) (xs : List Edge) (bs : List Bool) (k : Nat) : List Tie := (List.range k).foldl (fun a i => Nh a (Ku (xs.getD i (0, 0, ())) (bs.getD i false))) ts
theorem Ac7 (l : List Tie) (t : Tie) : (Nh l t).length = l.length + 1 := by
 have := (TB l t).length_eq
 simpa using this
theorem AVx (n : Int) (ts : List Tie) (xs : List Edge) (bs : List Bool) (hx : xs.length ≤ 4096) (ht : ts.length ≤ 400) (hb : bs.length = xs.length) :
  AT F4 many ((0 : Int), xs, bs, n, ts, (0 : Int), ()) = some (.inl ((0 : Int), xs, n, VH ts xs bs xs.length, ())) := by
 have e := B9 (step := F4) (fun i (a : List Tie) => ((0 : Int), xs, bs, n, a, (i : Int), ())) (List.range xs.length) (fun i a => .inl (Nh a (Ku (xs.getD i (0, 0, ())) (bs.getD i false)))) (fun a => .inl ((0 : Int), xs, n, a, ())) (fun i a => a.length = ts.length + i) (by simp; omega)
  (fun i x a hi hxx ha => by
   refine ⟨fun m' h' => ?_, fun r h' => (by cases h')⟩
   cases h'
   have := BO hxx
   subst this
   rw [List.length_range] at hi
   constructor
   ·rw [F4, AL, AM, decide_eq_true hi]
    simp only [Bf ((0 : Int), ((0 : Int), ())) hi, Bf false (show x < bs.length by omega), D0]
    have hp := AZD a (Ku (xs.getD x (0, 0, ())) (bs.getD x false)) (by omega)
    unfold Ku at hp ⊢
    simp only [hp]
    rw [AN (by omega)]
   ·rw [Ac7, ha]; omega)
  (fun a _ => by rw [F4, List.length_range, AL, AM, decide_eq_false (by omega)]) ts rfl
 have e' : AT F4 many ((0 : Int), xs, bs, n, ts, (0 : Int), ()) = _ := e
 rw [e', BA (fun i a => Nh a (Ku (xs.getD i (0, 0, ())) (bs.getD i false)))]
 rfl
end Go.Pev.Pl
end
section
namespace Go.Pev.Pl
open Tok
set_option linter.unusedSimpArgs false
def AJ0 (xs : List Edge) (bs : List Bool) (k : Nat) : List Tie := (List.range k).map fun i => Ku (xs.getD i (0, 0, ())) (bs.getD i false)
theorem AHC (ts : List Tie) (xs : List Edge) (bs : List Bool) (k : Nat) : VH ts xs bs (k + 1) = Nh (VH ts xs bs k) (Ku (xs.getD k (0, 0, ())) (bs.getD k false)) := by
 unfold VH
 rw [List.range_succ, List.foldl_append]
 rfl
theorem NO (ts : List Tie) (xs : List Edge) (bs : List Bool) : ∀ k, (VH ts xs bs k).Perm (ts ++ AJ0 xs bs k) := by
 intro k
 induction k with
 | zero => simp [VH, AJ0]
 | succ k ih =>
  rw [AHC]
  refine (TB _ _).trans ?_
  unfold AJ0 at *
  rw [List.range_succ, List.map_append, ← List.append_assoc]
  refine (List.Perm.cons _ ih).trans ?_
  exact (List.perm_append_singleton _ _).symm
end Go.Pev.Pl
end
section
namespace Go.Pev.Pl
open Tok
set_option linter.unusedSimpArgs false
theorem AfV {N : Nat} {ts : List Tie} (h : oks N ts) (hv0 : 0 ≤ F8 N) {xs : List Edge} (bs : List Bool) (hp : xs.Pairwise GK) (hx : ∀ e ∈ xs, 0 ≤ e.1 ∧ e.1 < e.2.1 ∧ e.2.1 < (N : Int)) (hn : ∀ e ∈ xs, ¬ e ∈ ts.map ed) : oks N (VH ts xs bs xs.length) := by
 rw [M3] at h ⊢
 obtain ⟨h1, h2⟩ := h
 have hget : ∀ i (hi : i < xs.length), xs.getD i (0, 0, ()) = xs[i] := fun i hi => by
  simp only [List.getD_eq_getElem?_getD, List.getElem?_eq_getElem hi, Option.getD_some]
 have hmem : ∀ k, k ≤ xs.length → ∀ t ∈ VH ts xs bs k, t ∈ ts ∨ ∃ i, i < k ∧ t = Ku (xs.getD i (0, 0, ())) (bs.getD i false) := by
  intro k hk t ht
  rcases List.mem_append.1 ((NO ts xs bs k).mem_iff.1 ht) with h | h
  ·exact .inl h
  ·unfold AJ0 at h
   obtain ⟨i, hi, rfl⟩ := List.mem_map.1 h
   exact .inr ⟨i, by simpa using hi, rfl⟩
 refine ⟨fun t ht => ?_, ?_⟩
 ·rcases hmem _ (Nat.le_refl _) t ht with h | ⟨i, hi, rfl⟩
  ·exact h1 t h
  ·rw [hget i hi]
   obtain ⟨q1, q2, q3⟩ := hx xs[i] (List.getElem_mem hi)
   exact ⟨q1, q2, q3, by show (0 : Int) ≤ 0; omega, hv0⟩
 ·have key : ∀ k, k ≤ xs.length → (VH ts xs bs k).Pairwise ahead := by
   intro k
   induction k with
   | zero => intro _; exact h2
   | succ k ih =>
    intro hk
    rw [AHC]
    refine AZC (ih (by omega)) fun t ht => ?_
    rw [hget k (by omega)]
    rintro ⟨e1, e2⟩
    rcases hmem k (by omega) t ht with h | ⟨i, hi, rfl⟩
    ·refine hn xs[k] (List.getElem_mem (by omega)) (List.mem_map.2 ⟨t, h, ?_⟩)
     unfold ed
     rw [e1, e2]
     rfl
    ·rw [hget i (by omega)] at e1 e2
     have := (List.pairwise_iff_getElem.1 hp) i k (by omega) (by omega) hi
     unfold GK at this
     simp only [Ku] at e1 e2
     omega
  exact key _ (Nat.le_refl _)
end Go.Pev.Pl
end
section
namespace Go.Pev.Pl
open Tok
set_option linter.unusedSimpArgs false
theorem Abh (ts : List Tie) : ∀ k, k ≤ ts.length → trs ts k = ((ts.take k).filter fun t => t.2.2.2.1).map ed := by
 intro k
 induction k with
 | zero => intro _; simp [trs]
 | succ k ih =>
  intro hk
  have hk' : k < ts.length := by omega
  rw [YS, ih (by omega), List.take_succ_eq_append_getElem hk', List.filter_append, List.map_append]
  simp only [List.getD_eq_getElem?_getD, List.getElem?_eq_getElem hk', Option.getD_some]
  cases h : ts[k].2.2.2.1
  ·simp [h]
  ·simp [h]
theorem AHb (ts : List Tie) : trs ts ts.length = (ts.filter fun t => t.2.2.2.1).map ed := by
 rw [Abh ts _ (Nat.le_refl _), List.take_length]
end Go.Pev.Pl
end
section
namespace Go.Pev.Pl
open Tok
set_option linter.unusedSimpArgs false
theorem Adu {xs : List Edge} {bs : List Bool} (h : bs.length = xs.length) : AJ0 xs bs xs.length = (xs.zip bs).map fun p => Ku p.1 p.2 := by
 unfold AJ0
 apply List.ext_getElem
 ·simp [h]
 ·intro i h1 h2
  have hi : i < xs.length := by simpa using h1
  simp [hi, show i < bs.length by omega]
theorem Ahp (x : Edge) (b : Bool) : ed (Ku x b) = x := rfl
theorem AfU (ts : List Tie) {xs : List Edge} {bs : List Bool} (h : bs.length = xs.length) : (trs (VH ts xs bs xs.length) (VH ts xs bs xs.length).length).Perm (trs ts ts.length ++ sel xs bs) := by
 rw [AHb, AHb]
 refine (((NO ts xs bs xs.length).filter _).map ed).trans ?_
 rw [List.filter_append, List.map_append, Adu h, List.filter_map, List.map_map]
 exact List.Perm.refl _
theorem AfW (ts : List Tie) (xs : List Edge) (bs : List Bool) : ∀ k, (VH ts xs bs k).length = ts.length + k := by
 intro k
 rw [(NO ts xs bs k).length_eq]
 simp [AJ0]
end Go.Pev.Pl
end
end
section
section
namespace Go.Pev.Pl
open Tok
set_option linter.unusedSimpArgs false
set_option maxRecDepth 100000
def AfS (N : Nat) (l : List Edge) : Prop := ∀ e ∈ l, In (N : Int) e.1 ∧ In (N : Int) e.2.1
theorem Aa6 (N : Nat) (hN : N ≤ 64) (ts : List Tie) (l : List Edge) : (CA N ts l).length ≤ 4096 := by
 unfold CA
 exact Nat.le_trans (List.length_filter_le _ _) (Jp N hN l)
theorem AQX {N : Nat} (hN : N ≤ 64) (ts : List Tie) (l : List Edge) : ∀ e ∈ CA N ts l, In (N : Int) e.1 ∧ In (N : Int) e.2.1 := by
 intro e he
 obtain ⟨⟨a, b, c, _⟩, _⟩ := (Tc N ts l e).1 he
 exact ⟨⟨by omega, by omega, a, by omega⟩, ⟨by omega, by omega, by omega, c⟩⟩
end Go.Pev.Pl
end
section
namespace Go.Pev.Pl
open Tok
set_option linter.unusedSimpArgs false
set_option maxRecDepth 100000
theorem AXF {N : Nat} (h1 : 1 ≤ N) (hN : N ≤ 64) {a : Int} (h : 0 ≤ a ∧ a < (N : Int)) : In (N : Int) a := ⟨by omega, by omega, h.1, h.2⟩
theorem AKT {N : Nat} {e : Edge} (h : In (N : Int) e.1 ∧ In (N : Int) e.2.1) : InE N e := ⟨⟨h.1.2.2.1, h.1.2.2.2⟩, ⟨h.2.2.2.1, h.2.2.2.2⟩⟩
theorem AVa {N : Nat} (h1 : 1 ≤ N) (hN : N ≤ 64) {l : List Edge} {out : List Int} (hc : Kd (N : Int) l out) : cnt out N = cc N l := by
 unfold cnt cc
 rw [List.countP_eq_length_filter]
 congr 1
 refine List.filter_congr fun k hk => ?_
 have hk : k < N := by simpa using hk
 have ik := AXF h1 hN (a := (k : Int)) ⟨by omega, by omega⟩
 have hg : out.getD k 0 = cl out (k : Int) := by unfold cl; rw [Int.toNat_natCast]
 rw [hg, Bool.eq_iff_iff, decide_eq_true_iff, HG]
 constructor
 ·intro h j hj hcn
  have := hc.least (k : Int) (j : Int) ik (AXF h1 hN ⟨by omega, by omega⟩) hcn.symm
  omega
 ·intro h
  have a1 := hc.isin _ ik
  have a2 := hc.con _ ik
  have a3 := hc.least (k : Int) (k : Int) ik ik (.refl _)
  obtain ⟨m, hm⟩ := Int.eq_ofNat_of_zero_le a1.2.2.1
  rw [hm] at a2 a3 ⊢
  by_cases hlt : m < k
  ·exact absurd a2.symm (h m hlt)
  ·omega
theorem FC.count {N : Nat} (h1 : 1 ≤ N) (hN : N ≤ 64) {rings : List (List Int)} {l : List Edge} (h : FC (N : Int) rings l) (hs : l.length < 1073741824) (ha : ∀ e ∈ l, In (N : Int) e.1 ∧ In (N : Int) e.2.1) : rings.length = cc N l := by
 obtain ⟨o, _, c⟩ := B7 (N : Int) l ⟨by omega, by omega⟩ hs ha
 rw [Vw h c, AVa h1 hN c]
theorem FC.congr {n : Int} {rings : List (List Int)} {l l' : List Edge} (h : FC n rings l) (hm : ∀ e ∈ l, e ∈ l') (hc : ∀ e ∈ l', Con l e.1 e.2.1) : FC n rings l' :=
 ⟨h.fr, fun a b ia ib => (h.sam a b ia ib).trans ⟨fun c => c.sub hm, fun c => c.cut hc⟩, fun A hA u v ho hu => by
  obtain ⟨e, he, q⟩ := h.arcs A hA u v ho hu
  exact ⟨e, hm e he, q⟩⟩
theorem ANp {N : Nat} (h1 : 1 ≤ N) (hN : N ≤ 64) {ts : List Tie} (hs : ts.length ≤ 400) (ho : oks N ts) : Bg (((N : Int), (ts, ())), ()) = some (true, ()) ↔ Fo N (trs ts ts.length) := by
 have hlen := Pt ts ts.length
 obtain ⟨o, _, c⟩ := B7 (N : Int) (trs ts ts.length) ⟨by omega, by omega⟩ (by omega) (YT hN ho)
 rw [ANq h1 hN hs ho c, AVa h1 hN c]
 unfold Fo
 constructor
 ·intro h
  have : decide ((cc N (trs ts ts.length) : Int) = (N : Int) - (trs ts ts.length).length) = true := by injection h with h; injection h
  have := of_decide_eq_true this
  omega
 ·intro h
  rw [decide_eq_true (by omega)]
theorem AQ5 {N : Nat} (h1 : 1 ≤ N) (hN : N ≤ 64) {rings : List (List Int)} {l : List Edge} {e : Edge} (h : FC (N : Int) rings l) (hs : l.length + 1 < 1073741824) (ha : ∀ e ∈ l, In (N : Int) e.1 ∧ In (N : Int) e.2.1) (iu : In (N : Int) e.1) (iv : In (N : Int) e.2.1) :
  ∃ zs, Kf (((N : Int), (rings, ())), e.1, e.2.1, ()) = some ((N : Int), zs, (if Ca l e.1 e.2.1 = true then 5 else 0), ()) ∧ FC (N : Int) zs (l ++ [e]) := by
 obtain ⟨zs, q, e1, e2, e3⟩ := ALw h iu iv
 have c1 := h.count h1 hN (by omega) ha
 have c2 := e2.count h1 hN (by rw [List.length_append]; simp; omega) (fun x hx => by
  rcases List.mem_append.1 hx with hx | hx
  ·exact ha x hx
  ·rw [List.mem_singleton] at hx; subst hx; exact ⟨iu, iv⟩)
 have c3 := ALX (l := l) (AKT ⟨iu, iv⟩)
 refine ⟨zs, ?_, e2⟩
 rw [e1]
 by_cases hc : Ca l e.1 e.2.1 = true
 ·rw [if_pos hc] at c3 ⊢
  rcases e3 with ⟨rfl, e4⟩ | ⟨rfl, rfl⟩
  ·omega
  ·rfl
 ·rw [if_neg hc] at c3 ⊢
  rcases e3 with ⟨rfl, e4⟩ | ⟨rfl, rfl⟩
  ·rfl
  ·omega
theorem Tw {N : Nat} (h1 : 1 ≤ N) (hN : N ≤ 64) (l base : List Edge) (hs : base.length + l.length < 1073741824) (hb : ∀ e ∈ base, In (N : Int) e.1 ∧ In (N : Int) e.2.1) (ha : ∀ e ∈ l, In (N : Int) e.1 ∧ In (N : Int) e.2.1) :
  ∀ (m i cnt : Nat) (rings : List (List Int)), i + m = l.length → FC (N : Int) rings (base ++ l.take i) → m < cnt →
  ∃ zs, AW Bs cnt (l, (N : Int), rings, (0 : Int), gfl base (l.take i), (i : Int), ()) = some (.inl ((N : Int), zs, (0 : Int), gfl base l, ())) ∧ FC (N : Int) zs (base ++ l) := by
 intro m
 induction m with
 | zero =>
  intro i cnt rings hi h hc
  obtain ⟨cnt, rfl⟩ : ∃ c, cnt = c + 1 := ⟨cnt - 1, by omega⟩
  rw [List.take_of_length_le (by omega)] at h ⊢
  refine ⟨rings, ?_, h⟩
  rw [AW, Bs, AL, AM, decide_eq_false (by omega)]
 | succ m ih =>
  intro i cnt rings hi h hc
  obtain ⟨cnt, rfl⟩ : ∃ c, cnt = c + 1 := ⟨cnt - 1, by omega⟩
  have hi' : i < l.length := by omega
  have hx : l[i]? = some l[i] := List.getElem?_eq_getElem hi'
  obtain ⟨iu, iv⟩ := ha _ (List.getElem_mem hi')
  have hba : ∀ e ∈ base ++ l.take i, In (N : Int) e.1 ∧ In (N : Int) e.2.1 := fun e he => by
   rcases List.mem_append.1 he with he | he
   ·exact hb e he
   ·exact ha e (List.take_subset _ _ he)
  have hlt : (l.take i).length = i := by rw [List.length_take]; omega
  obtain ⟨zs, e1, e2⟩ := AQ5 h1 hN h (by rw [List.length_append]; omega) hba iu iv
  obtain ⟨zs', q', f1, f2, _⟩ := ADN (n := (N : Int)) (rings := rings) l[i].1 l[i].2.1 h.fr.dom
  rw [e1] at f1
  cases f1
  have htk : l.take (i + 1) = l.take i ++ [l[i]] := List.take_succ_eq_append_getElem hi'
  rw [AW, Bs, AL, AM, decide_eq_true hi']
  simp only [Ac hx, f2]
  rw [AN (by omega), A2 (by simp only [AL, List.length_cons, List.length_nil, AKr, hlt]; omega)]
  obtain ⟨zs2, e3, e4⟩ := ih (i + 1) cnt zs (by omega) (by rw [htk, ← List.append_assoc]; exact e2) (by omega)
  refine ⟨zs2, ?_, e4⟩
  rw [← e3, htk, Aep, Bv]
  congr 5
  by_cases hcn : Ca (base ++ l.take i) l[i].1 l[i].2.1 = true
  ·rw [if_pos hcn, hcn, Ai]
   rfl
  ·rw [if_neg hcn, Ai]
   simp [hcn]
theorem APQ {N : Nat} (h1 : 1 ≤ N) (hN : N ≤ 64) {rings : List (List Int)} {base : List Edge} (h : FC (N : Int) rings base) (l : List Edge) (hs : base.length + l.length < 1073741824) (hb : ∀ e ∈ base, In (N : Int) e.1 ∧ In (N : Int) e.2.1) (ha : ∀ e ∈ l, In (N : Int) e.1 ∧ In (N : Int) e.2.1) :
  ∃ zs, J3 (((N : Int), (rings, ())), l, ()) = some (((N : Int), (zs, ())), gfl base l, 0, ()) ∧ FC (N : Int) zs (base ++ l) := by
 have hall : (l.all fun e => decide (In (N : Int) e.1) && decide (In (N : Int) e.2.1)) = true := by
  rw [List.all_eq_true]
  intro e he
  obtain ⟨h1, h2⟩ := ha e he
  simp [h1, h2]
 obtain ⟨zs, e, h2⟩ := Tw h1 hN l base hs hb ha l.length 0 many rings (by omega) (by simpa using h) (by simp only [many]; omega)
 have e' : AT Bs many (l, (N : Int), rings, (0 : Int), [], (0 : Int), ()) = _ := (Aj _ _ _).trans e
 refine ⟨zs, ?_, h2⟩
 rw [Om, I8]
 simp only [Vn (N : Int) rings l h.fr.dom (by omega), hall]
 have hE : ADS (N : Int) rings true = 0 := by
  unfold ADS
  simp [He.2 h.fr]
 rw [hE]
 simp only [Bb, Bool.not_true, e']
theorem ALU {N : Nat} (h1 : 1 ≤ N) (hN : N ≤ 64) {rings : List (List Int)} {base : List Edge} (h : FC (N : Int) rings base) (l : List Edge) (hs : base.length + l.length < 1073741824) (hb : ∀ e ∈ base, In (N : Int) e.1 ∧ In (N : Int) e.2.1) (ha : ∀ e ∈ l, In (N : Int) e.1 ∧ In (N : Int) e.2.1) :
  L6 (((N : Int), (rings, ())), l, ()) = some (gfl base l, 0, ()) := by
 obtain ⟨zs, e, _⟩ := APQ h1 hN h l hs hb ha
 rw [Wj, KF]
 simp only [e]
end Go.Pev.Pl
end
section
namespace Go.Pev.Pl
open Tok
set_option linter.unusedSimpArgs false
set_option maxRecDepth 100000
end Go.Pev.Pl
end
section
namespace Go.Pev.Pl.SE
open Go.Sort
def ok (_ : Int × Int × Unit) : Prop := True
def okz : Int × Int × Unit := (0, 0, ())
theorem ABS : ok okz := trivial
def lt (x y : Int × Int × Unit) : Bool := decide (x.1 < y.1 ∨ (x.1 = y.1 ∧ x.2.1 < y.2.1))
theorem swo : SWO lt := ⟨fun x => by simp [lt], fun x y z h1 h2 => by simp only [lt, decide_eq_true_eq] at *; omega, fun x y z h1 h2 => by simp only [lt, decide_eq_false_iff_not] at *; omega⟩
end Go.Pev.Pl.SE
end
section
namespace Go.Pev.Pl.ST
open Go.Sort
def ok (_ : Int × Int × Int × Bool × Unit) : Prop := True
def okz : Int × Int × Int × Bool × Unit := (0, 0, 0, false, ())
theorem ABS : ok okz := trivial
def lt (x y : Int × Int × Int × Bool × Unit) : Bool := decide (x.1 < y.1 ∨ (x.1 = y.1 ∧ x.2.1 < y.2.1))
theorem swo : SWO lt := ⟨fun x => by simp [lt], fun x y z h1 h2 => by simp only [lt, decide_eq_true_eq] at *; omega, fun x y z h1 h2 => by simp only [lt, decide_eq_false_iff_not] at *; omega⟩
end Go.Pev.Pl.ST
end
section
namespace Go.Pev.Pl
open Tok
set_option linter.unusedSimpArgs false
set_option maxRecDepth 100000
section
variable {α β : Type} [DecidableEq α]
end
end Go.Pev.Pl
end
section
namespace Go.Pev.Pl
open Tok
set_option linter.unusedSimpArgs false
set_option maxRecDepth 100000
theorem AgJ : ∀ (xs b : List Edge), sel xs (gfl b xs) = JF b xs := by
 intro xs
 induction xs with
 | nil => intro b; rfl
 | cons x xs ih =>
  intro b
  have := ih (b ++ [x])
  unfold sel at *
  rw [gfl, JF, List.zip_cons_cons, List.filter_cons]
  by_cases h : Ca b x.1 x.2.1 = true
  ·simp [h, this]
  ·simp [h, this]
theorem Ahd {N : Nat} {b xs : List Edge} (h : Fo N b) (hx : ∀ e ∈ xs, InE N e) : Fo N (b ++ JF b xs) := by
 have h1 := JO xs b hx
 have h2 : cc N (b ++ xs) = cc N (b ++ JF b xs) := PS fun a c => ADD xs b
 unfold Fo at *
 rw [List.length_append]
 omega
theorem Fh {N : Nat} (hN : N ≤ 64) : 0 ≤ F8 N := by
 have : ((List.range 65).all fun k => decide (0 ≤ F8 k)) = true := by kernel_rfl
 exact of_decide_eq_true (List.all_eq_true.1 this N (by simp; omega))
noncomputable def grown (N : Nat) (ts : List Tie) (l : List Edge) : List Tie := VH ts (CA N ts l) (gfl (trs ts ts.length) (CA N ts l)) (CA N ts l).length
theorem AaY (N : Nat) (ts : List Tie) (l : List Edge) : (grown N ts l).length = ts.length + (CA N ts l).length := AfW ..
theorem AUo (N : Nat) (ts : List Tie) (l : List Edge) : (grown N ts l).Perm (ts ++ AJ0 (CA N ts l) (gfl (trs ts ts.length) (CA N ts l)) (CA N ts l).length) := NO ..
theorem AGh (N : Nat) (ts : List Tie) (l : List Edge) : (trs (grown N ts l) (grown N ts l).length).Perm (trs ts ts.length ++ JF (trs ts ts.length) (CA N ts l)) := by
 have := AfU ts (xs := CA N ts l) (bs := gfl (trs ts ts.length) (CA N ts l)) (AKr _ _)
 rw [AgJ] at this
 exact this
theorem AGi {N : Nat} (hN : N ≤ 64) {ts : List Tie} (ho : oks N ts) (l : List Edge) : oks N (grown N ts l) :=
 AfV ho (Fh hN) _ (AVZ N ts l) (fun e he => by
  obtain ⟨⟨a, b, c, _⟩, _⟩ := (Tc N ts l e).1 he
  exact ⟨a, b, c⟩) (fun e he => ((Tc N ts l e).1 he).2)
theorem AG4 {N : Nat} (hN : N ≤ 64) (ts : List Tie) (l : List Edge) : ∀ e ∈ CA N ts l, InE N e := fun e he => AKT (AQX hN ts l e he)
theorem Aej {N : Nat} (hN : N ≤ 64) {ts : List Tie} (h : Fo N (trs ts ts.length)) (l : List Edge) : Fo N (trs (grown N ts l) (grown N ts l).length) :=
 (Ahd h (AG4 hN ts l)).perm (AGh N ts l).symm
structure RG2 (N : Nat) (ts : List Tie) : Prop where
 h1 : 1 ≤ N
 hN : N ≤ 64
 ht : ts.length ≤ 400
 oks : oks N ts
 fo : Fo N (trs ts ts.length)
theorem RG2.r21 {N : Nat} {ts : List Tie} (h : RG2 N ts) : Bg (((N : Int), (ts, ())), ()) = some (true, ()) := (ANp h.h1 h.hN h.ht h.oks).2 h.fo
theorem RG2.lr {N : Nat} {ts : List Tie} (h : RG2 N ts) : EV (((N : Int), (ts, ())), ()) = some (true, ()) := by
 obtain ⟨b, h1, h2, _⟩ := ADM (N : Int) ts (by have := h.ht; omega)
 rw [h.r21] at h1
 cases h1
 exact h2
theorem AF5 (n : Int) (ts : List Tie) (hl : ts.length < 4611686018427387904) : (Bg ((n, (ts, ())), ()) = some (false, ()) ∧ EV ((n, (ts, ())), ()) = some (false, ())) ∨ ∃ N : Nat, n = (N : Int) ∧ RG2 N ts := by
 obtain ⟨b, h1, h2, h3⟩ := ADM n ts hl
 cases b
 ·exact .inl ⟨h1, h2⟩
 ·obtain ⟨N, rfl, q1, q2, q3, q4⟩ := h3 rfl
  exact .inr ⟨N, rfl, q1, q2, q3, q4, (ANp q1 q2 q3 q4).1 h1⟩
theorem RG2.inE {N : Nat} {ts : List Tie} (h : RG2 N ts) : ∀ e ∈ ts.map ed, In (N : Int) e.1 ∧ In (N : Int) e.2.1 := AiO h.hN h.oks
theorem RG2.inT {N : Nat} {ts : List Tie} (h : RG2 N ts) : ∀ e ∈ trs ts ts.length, In (N : Int) e.1 ∧ In (N : Int) e.2.1 := YT h.hN h.oks
theorem RG2.Aim {N : Nat} {ts : List Tie} (h : RG2 N ts) : (trs ts ts.length).length ≤ 400 := by have := Pt ts ts.length; have := h.ht; omega
theorem RG2.grown {N : Nat} {ts : List Tie} (h : RG2 N ts) {l : List Edge} (hf : ts.length + (CA N ts l).length ≤ 400) : RG2 N (grown N ts l) :=
 ⟨h.h1, h.hN, by rw [AaY]; exact hf, AGi h.hN h.oks l, Aej h.hN h.fo l⟩
theorem ASF {N : Nat} (h1 : 1 ≤ N) (hN : N ≤ 64) (l : List Edge) (hs : l.length < 1073741824) (ha : ∀ e ∈ l, In (N : Int) e.1 ∧ In (N : Int) e.2.1) : Z0 ((N : Int), l, ()) = some ((cc N l : Int), 0, ()) := by
 obtain ⟨out, e0, hc⟩ := AIz (N : Int) l ⟨by omega, by omega⟩ hs ha
 have ho : out.length = N := by have := hc.len; omega
 rw [AFu, QI]
 simp only [e0]
 have e := B9 (step := Er) (fun i (a : Nat) => ((0 : Int), (a : Int), out, AO out, (i : Int), ())) (List.range N) (fun k a => .inl (if out.getD k 0 = (k : Int) then a + 1 else a)) (fun a => .inl ((0 : Int), (a : Int), ())) (fun i a => a ≤ i) (by simp; omega)
  (fun i x a hi hx ha => by
   refine ⟨fun m' h' => ?_, fun r h' => (by cases h')⟩
   cases h'
   have := BO hx
   subst this
   rw [List.length_range] at hi
   constructor
   ·rw [Er, AL, ho, AM, decide_eq_true hi]
    simp only [Bf 0 (show x < out.length by omega), D0, Ai]
    rw [AN (by omega), AN (by omega)]
    by_cases h : out.getD x 0 = (x : Int)
    ·rw [decide_eq_true h, if_pos h]
    ·rw [decide_eq_false h, if_neg h]
   ·split <;> omega)
  (fun a _ => by rw [Er, List.length_range, AL, ho, AM, decide_eq_false (by omega)]) 0 (Nat.le_refl _)
 have e' : AT Er many ((0 : Int), (0 : Int), out, AO out, (0 : Int), ()) = _ := e
 simp only [e']
 rw [BA (fun k a => if out.getD k 0 = (k : Int) then a + 1 else a), Aar (fun k => out.getD k 0 = (k : Int)), Nat.zero_add]
 have := AVa h1 hN hc
 unfold cnt at this
 rw [this]
end Go.Pev.Pl
end
section
namespace Go.Pev.Pl
open Tok
set_option linter.unusedSimpArgs false
set_option maxRecDepth 100000
def Fx (u v : Int) (t : Tie) : Bool := decide (t.1 = min u v ∧ t.2.1 = max u v)
theorem AU7 {N : Nat} {ts : List Tie} (h : RG2 N ts) (u v : Int) : ACp (((N : Int), (ts, ())), u, v, ()) = some (if ts.any (Fx u v) then ((ts.findIdx (Fx u v) : Nat) : Int) else -1, ()) := by
 have ht := h.ht
 rw [AGx, Q8]
 simp only [h.r21, Bool.not_true]
 have e := DC (step := FJ) (fun i => (u, v, (N : Int), ts, (i : Int), ())) ts (Fx u v) (fun i => .inl ((i : Int), ())) (.inr (.inl ())) (by omega)
  (fun i x hi hx => by
   rw [FJ, AL, AM, decide_eq_true hi]
   simp only [Ac hx, Qs, Qt, Ai]
   rw [AN (by omega)]
   unfold Fx
   by_cases h1 : x.1 = min u v
   ·by_cases h2 : x.2.1 = max u v
    ·rw [decide_eq_true h1, decide_eq_true h2, decide_eq_true (show x.1 = min u v ∧ x.2.1 = max u v from ⟨h1, h2⟩)]
     rfl
    ·rw [decide_eq_true h1, decide_eq_false h2, decide_eq_false (fun h : x.1 = min u v ∧ x.2.1 = max u v => h2 h.2)]
     rfl
   ·rw [decide_eq_false h1, decide_eq_false (fun h : x.1 = min u v ∧ x.2.1 = max u v => h1 h.1)]
    rfl)
  (by rw [FJ, AL, AM, decide_eq_false (by omega)])
 have e' : AT FJ many (u, v, (N : Int), ts, (0 : Int), ()) = _ := e
 rw [e']
 by_cases ha : ts.any (Fx u v) = true
 ·rw [if_pos ha, if_pos ha]
 ·rw [if_neg ha, if_neg ha]
theorem Ae7 {N : Nat} {ts : List Tie} (ho : oks N ts) {t : Tie} (hm : t ∈ ts) : ts.any (Fx t.1 t.2.1) = true ∧ ∃ k, ts.findIdx (Fx t.1 t.2.1) = k ∧ k < ts.length ∧ ts[k]? = some t := by
 obtain ⟨hv, hp⟩ := (M3 N ts).1 ho
 obtain ⟨_, hlt, _⟩ := hv t hm
 have hself : Fx t.1 t.2.1 t = true := by
  unfold Fx
  rw [Int.min_eq_left (by omega), Int.max_eq_right (by omega)]
  simp
 refine ⟨List.any_eq_true.2 ⟨t, hm, hself⟩, _, rfl, List.findIdx_lt_length.2 ⟨t, hm, hself⟩, ?_⟩
 have hk : ts.findIdx (Fx t.1 t.2.1) < ts.length := List.findIdx_lt_length.2 ⟨t, hm, hself⟩
 have hg := List.findIdx_getElem (xs := ts) (p := Fx t.1 t.2.1) (w := hk)
 rw [List.getElem?_eq_getElem hk]
 obtain ⟨j, hj, rfl⟩ := List.getElem_of_mem hm
 generalize ts.findIdx (Fx ts[j].1 ts[j].2.1) = k at hk hg
 unfold Fx at hg
 rw [Int.min_eq_left (by omega), Int.max_eq_right (by omega), decide_eq_true_iff] at hg
 rw [List.pairwise_iff_getElem] at hp
 unfold ahead at hp
 rcases Nat.lt_trichotomy j k with h | h | h
 ·have := hp j k hj hk h; omega
 ·subst h; rfl
 ·have := hp k j hk hj h; omega
end Go.Pev.Pl
end
end
section
namespace Go.Pev.Pl
open Tok
set_option linter.unusedSimpArgs false
set_option maxRecDepth 100000
theorem Abj (ts : List Tie) (t : Tie) (k : Int) : trk (ts ++ [t]) k = trk ts k ++ if t.2.2.2.1 = true ∧ k ≤ t.2.2.1 then [ed t] else [] := by
 rw [BY]
 congr 1
 unfold trk
 rw [List.filter_cons]
 by_cases h : t.2.2.2.1 = true ∧ k ≤ t.2.2.1
 ·rw [if_pos h, h.1, decide_eq_true h.2]; rfl
 ·rw [if_neg h, if_neg]
  ·rfl
  ·rw [Bool.and_eq_true, decide_eq_true_eq]; exact h
theorem AMZ (k : Int) : ∀ (ts a : List Tie) (acc : List Edge), acc = trk a k → ts.foldl (fun acc t => if t.2.2.2.1 = true ∧ k ≤ t.2.2.1 then acc ++ [ed t] else acc) acc = trk (a ++ ts) k := by
 intro ts
 induction ts with
 | nil => intro a acc h; simpa using h
 | cons t ts ih =>
  intro a acc h
  rw [List.foldl_cons, ih (a ++ [t])]
  ·simp
  ·rw [Abj, ← h]
   split <;> simp
theorem AWD (ts : List Tie) (k : Int) : (trk ts k).length ≤ ts.length := by
 unfold trk
 rw [List.length_map]
 exact List.length_filter_le _ _
theorem Pv (ts : List Tie) (k : Int) : ∀ e ∈ trk ts k, e ∈ ts.map ed := by
 intro e he
 obtain ⟨t, h1, _, _, rfl⟩ := CW.1 he
 exact List.mem_map.2 ⟨t, h1, rfl⟩
theorem Ad2 (n : Int) (ts : List Tie) (hs : ts.length ≤ 400) (k : Int) : Ol ((n, (ts, ())), k, ()) = some (trk ts k, ()) := by
 rw [Tk, LW]
 have e := B9 (step := CD) (fun i (a : List Edge) => (k, a, ts, AO ts, (i : Int), ())) ts (fun t a => .inl (if t.2.2.2.1 = true ∧ k ≤ t.2.2.1 then a ++ [ed t] else a)) (fun a => .inl (a, ())) (fun i a => a.length ≤ i) (by omega)
  (fun i x a hi hx ha => by
   refine ⟨fun m' h' => ?_, fun r h' => (by cases h')⟩
   cases h'
   constructor
   ·rw [CD, AL, AM, decide_eq_true hi]
    simp only [Ac hx, AL]
    rw [AN (by omega), An, A2 (by simp only [List.length_cons, List.length_nil]; omega)]
    cases h4 : x.2.2.2.1
    ·simp
    ·by_cases h5 : k ≤ x.2.2.1
     ·simp [h5, ed, Aq]
     ·simp [h5]
   ·split
    ·rw [List.length_append]; simp; omega
    ·omega)
  (fun a _ => by rw [CD, AL, AM, decide_eq_false (by omega)]) [] (Nat.le_refl _)
 have e' : AT CD many (k, [], ts, AO ts, (0 : Int), ()) = _ := e
 simp only [e']
 rw [BA (fun (t : Tie) (a : List Edge) => if t.2.2.2.1 = true ∧ k ≤ t.2.2.1 then a ++ [ed t] else a), AMZ k ts [] [] rfl]
 rfl
theorem SR (n : Int) (ts : List Tie) (hs : ts.length ≤ 400) (k : Int) : GR ((n, (ts, ())), k, ()) = some (trk ts k, ()) := by
 rw [OA, Iw]
 have e := B9 (step := Br) (fun i (a : List Edge) => (k, n, ts, a, (i : Int), ())) ts (fun t a => .inl (if t.2.2.2.1 = true ∧ k ≤ t.2.2.1 then a ++ [ed t] else a)) (fun a => .inl (a, ())) (fun i a => a.length ≤ i) (by omega)
  (fun i x a hi hx ha => by
   refine ⟨fun m' h' => ?_, fun r h' => (by cases h')⟩
   cases h'
   constructor
   ·rw [Br, AL, AM, decide_eq_true hi]
    simp only [Ac hx, AL]
    rw [AN (by omega), An, A2 (by simp only [List.length_cons, List.length_nil]; omega)]
    cases h4 : x.2.2.2.1
    ·simp
    ·by_cases h5 : k ≤ x.2.2.1
     ·simp [h5, ed, Aq]
     ·simp [h5]
   ·split
    ·rw [List.length_append]; simp; omega
    ·omega)
  (fun a _ => by rw [Br, AL, AM, decide_eq_false (by omega)]) [] (Nat.le_refl _)
 have e' : AT Br many (k, n, ts, [], (0 : Int), ()) = _ := e
 simp only [e']
 rw [BA (fun (t : Tie) (a : List Edge) => if t.2.2.2.1 = true ∧ k ≤ t.2.2.1 then a ++ [ed t] else a), AMZ k ts [] [] rfl]
 rfl
theorem Pu {N : Nat} {ts : List Tie} (h : oks N ts) : trs ts ts.length = trk ts 0 := by
 rw [AHb]
 unfold trk
 congr 1
 refine List.filter_congr fun t ht => ?_
 have := ((M3 N ts).1 h).1 t ht
 rw [decide_eq_true this.2.2.2.1, Bool.and_true]
theorem RG2.fo0 {N : Nat} {ts : List Tie} (h : RG2 N ts) : Fo N (trk ts 0) := by rw [← Pu h.oks]; exact h.fo
theorem RG2.inK {N : Nat} {ts : List Tie} (h : RG2 N ts) (k : Int) : ∀ e ∈ trk ts k, In (N : Int) e.1 ∧ In (N : Int) e.2.1 := fun e he => h.inE e (Pv ts k e he)
theorem RG2.AiD {N : Nat} {ts : List Tie} (h : RG2 N ts) (k : Int) : (trk ts k).length ≤ 400 := Nat.le_trans (AWD ts k) h.ht
theorem RG2.Aev {N : Nat} {ts : List Tie} (h : RG2 N ts) (k : Int) : ∃ zs, J4 (((N : Int), (ts, ())), k, ()) = some (((N : Int), (zs, ())), 0, ()) ∧ FC (N : Int) zs (trk ts k) := by
 have hl := h.AiD k
 have h1 := h.h1
 have hN := h.hN
 rcases (AXR (N : Int) (trk ts k) ⟨by omega, by omega⟩ (by omega)).symm with ⟨hno, _⟩ | ⟨_, zs, e, hF⟩
 ·exact absurd (h.inK k) hno
 refine ⟨zs, ?_, hF⟩
 rw [On, JA]
 simp only [h.lr, Bool.not_true, Ad2 (N : Int) ts h.ht k, e]
theorem RG2.AXZ {N : Nat} {ts : List Tie} (h : RG2 N ts) (k : Int) : ∃ out, Cm ((N : Int), trk ts k, ()) = some (out, ()) ∧ Kd (N : Int) (trk ts k) out := by
 have := h.AiD k
 have h1 := h.h1
 have hN := h.hN
 exact B7 (N : Int) (trk ts k) ⟨by omega, by omega⟩ (by omega) (h.inK k)
theorem Aax {n : Int} {rings : List (List Int)} {l : List Edge} (h : FC n rings l) {u v : Int} (iu : In n u) (iv : In n v) : AQC ((n, (rings, ())), u, v, ()) = some (Ca l u v, 0, ()) := by
 have hD := h.fr.dom
 have hRF := He.2 h.fr
 have ht : Ij ((n, (rings, ())), [u, v], ()) = some (0, ()) := by
  rw [O3 n rings _ hD (by simp), ADS]
  simp [hRF, iu, iv]
 rw [AQB, X0]
 simp only [ht, Bb, Bool.not_true, AWE n rings _ hD, hRF, iu, iv, and_self, if_true, Ai]
 have : decide (plc rings u = plc rings v) = Ca l u v := by
  rw [Bool.eq_iff_iff, decide_eq_true_iff, BH, h.fr.ANf iu iv]
  exact h.sam u v iu iv
 rw [this]
theorem Aap {N : Nat} {rings : List (List Int)} {l : List Edge} (h : FC (N : Int) rings l) {v : Int} (iv : In (N : Int) v) : AP3 (((N : Int), (rings, ())), v, ()) = some ((csz N l v : Int), 0, ()) := by
 obtain ⟨i, A, _, hi, hv, _⟩ := LK (h.fr.cov v iv)
 have hD := h.fr.dom
 have hRF := He.2 h.fr
 have mA := List.mem_of_getElem? hi
 have gA := h.fr.rg A mA
 have hl := gA.1.1
 have hll := Ad7 gA
 have ht : Ij (((N : Int), (rings, ())), [v], ()) = some (0, ()) := by
  rw [O3 (N : Int) rings _ hD (by simp), ADS]
  simp [hRF, iv]
 have hvl : (Nm (N : Int) A).length = csz N l v := by
  unfold Nm csz
  rw [Int.toNat_natCast, ← List.countP_eq_length_filter, List.countP_map]
  refine List.countP_congr fun w hw => ?_
  have hw : w < N := by simpa using hw
  have iv2 := iv
  obtain ⟨b1, b2, _, _⟩ := iv2
  have iw : In (N : Int) (w : Int) := ⟨b1, b2, by omega, by omega⟩
  rw [BH, ← h.sam v w iv iw]
  simp only [Function.comp, decide_eq_true_eq]
  constructor
  ·intro hwA; exact ⟨A, mA, hv, hwA⟩
  ·rintro ⟨K, hK, k1, k2⟩
   rw [h.fr.one mA hK iv.2.2.2 hv k1]; exact k2
 rw [AP2, Xz]
 simp only [ht, Bb, Bool.not_true, AWE (N : Int) rings v hD, hRF, iv, and_self, if_true, h.fr.AAi hi iv.2.2.2 hv, Ac hi, AL, Oc, QR]
 rw [Ag (n := (A.length : Int) + 2) (by omega), if_neg (by omega)]
 have : (((A.length : Int) + 2).tdiv 3) = ((Nm (N : Int) A).length : Int) := by
  rw [Int.tdiv_eq_ediv_of_nonneg (by omega)]
  omega
 rw [this, Ag (by omega), hvl]
end Go.Pev.Pl
end
section
namespace Go.Pev.Pl
open Tok
set_option linter.unusedSimpArgs false
set_option maxRecDepth 100000
noncomputable def DZ (p : Prop) : Bool := @decide p (Classical.propDecidable _)
theorem BM (p : Prop) : DZ p = true ↔ p := by
 unfold DZ
 exact @decide_eq_true_iff _ (Classical.propDecidable _)
theorem I4 {p : Prop} {b : Bool} (h : b = true ↔ p) : b = DZ p := by rw [Bool.eq_iff_iff, BM]; exact h
theorem Aei : ∀ (xs b : List Edge), JF b xs = [] → ∀ e ∈ xs, Con b e.1 e.2.1 := by
 intro xs
 induction xs with
 | nil => intro b _ e he; cases he
 | cons x xs ih =>
  intro b h e he
  rw [JF] at h
  by_cases hc : Ca b x.1 x.2.1 = true
  ·rw [if_pos hc] at h
   rw [BH] at hc
   rcases List.mem_cons.1 he with rfl | he
   ·exact hc
   ·exact (Wi hc).1 (ih _ h e he)
  ·rw [if_neg hc] at h; cases h
def Hc (ts : List Tie) : Prop := ∀ e ∈ ts.map ed, Con (trk ts 0) e.1 e.2.1
def PW (ts : List Tie) : Prop := ∀ t ∈ ts, t.2.2.2.1 = false → Con (trk ts t.2.2.1) t.1 t.2.1
def JQ (N : Nat) (ts : List Tie) : Prop := ∀ k : Nat, (k : Int) ≤ F8 N → ∀ v : Nat, v < N → csz N (trk ts k) v ≤ max 1 (N / 2 ^ k)
theorem Af8 {N : Nat} {ts : List Tie} (h : RG2 N ts) : cc N (trk ts 0) = cc N (ts.map ed) ↔ Hc ts := by
 have hi : ∀ e ∈ ts.map ed, InE N e := fun e he => AKT (h.inE e he)
 constructor
 ·intro hc
  have h1 := JO (N := N) (ts.map ed) (trk ts 0) hi
  have h2 : cc N (trk ts 0 ++ ts.map ed) = cc N (ts.map ed) := PS fun a b => X1 fun e => by
   rw [List.mem_append]
   exact ⟨fun q => q.elim (Pv ts 0 e) id, .inr⟩
  exact Aei _ _ (List.eq_nil_of_length_eq_zero (by omega))
 ·intro hs
  exact PS fun a b => ⟨fun c => c.sub (Pv ts 0), fun c => c.cut hs⟩
theorem AR0 {N : Nat} {ts : List Tie} (h : RG2 N ts) : Kz (((N : Int), (ts, ())), ()) = some (DZ (Hc ts), ()) := by
 obtain ⟨zs, e, hF⟩ := h.Aev 0
 have ht := h.ht
 have hk := h.AiD 0
 have hc := hF.count h.h1 h.hN (by omega) (h.inK 0)
 rw [Si, Ky]
 simp only [e, Bb, Bool.not_true, AUI (N : Int) ts h.ht h.lr, ASF h.h1 h.hN (ts.map ed) (by rw [List.length_map]; omega) h.inE, AL]
 rw [Xt, hc]
 congr 2
 refine I4 ?_
 rw [decide_eq_true_iff]
 exact Af8 h
theorem AbE {N : Nat} (h1 : 1 ≤ N) (hN : N ≤ 64) {l l' : List Edge} {o o' : List Int} (hc : Kd (N : Int) l o) (hc' : Kd (N : Int) l' o') (hl : ∀ e ∈ l, In (N : Int) e.1 ∧ In (N : Int) e.2.1) (hl' : ∀ e ∈ l', In (N : Int) e.1 ∧ In (N : Int) e.2.1) :
  o = o' ↔ (∀ e ∈ l, Con l' e.1 e.2.1) ∧ (∀ e ∈ l', Con l e.1 e.2.1) := by
 constructor
 ·rintro rfl
  refine ⟨fun e he => ?_, fun e he => ?_⟩
  ·obtain ⟨i1, i2⟩ := hl e he
   exact (hc'.same _ _ i1 i2).1 ((hc.same _ _ i1 i2).2 (.edge e he))
  ·obtain ⟨i1, i2⟩ := hl' e he
   exact (hc.same _ _ i1 i2).1 ((hc'.same _ _ i1 i2).2 (.edge e he))
 ·rintro ⟨q1, q2⟩
  exact Kd.unique h1 hN hc (Kd.congr (fun a b => ⟨fun c => c.cut q2, fun c => c.cut q1⟩) hc')
abbrev ALv := Int × List (List Int) × Unit
theorem Nq {N : Nat} {ts : List Tie} (h : RG2 N ts) : ∃ F : List ALv, Gp (((N : Int), (ts, ())), ()) = some (F, ()) ∧ (F.length : Int) = F8 N + 1 ∧ ∀ k : Nat, k < F.length → ∃ zs, F[k]? = some ((N : Int), (zs, ())) ∧ FC (N : Int) zs (trk ts k) := by
 have hN := h.hN
 have ht0 := Fh h.hN
 obtain ⟨T, hT⟩ := Int.eq_ofNat_of_zero_le ht0
 have hT64 : T < 100 := by
  have : ((List.range 65).all fun k => decide (F8 k < 100)) = true := by kernel_rfl
  have := of_decide_eq_true (List.all_eq_true.1 this N (by simp; omega))
  omega
 rw [QD, Hq]
 have key : ∀ (m i cnt : Nat) (F : List ALv), i + m = T + 1 → m < cnt → F.length = i → (∀ k : Nat, k < i → ∃ zs, F[k]? = some ((N : Int), (zs, ())) ∧ FC (N : Int) zs (trk ts k)) →
   ∃ F' : List ALv, AW CO cnt ((N : Int), ts, F, (i : Int), ()) = some (.inr (.inl (F', ()))) ∧ F'.length = T + 1 ∧ ∀ k : Nat, k < T + 1 → ∃ zs, F'[k]? = some ((N : Int), (zs, ())) ∧ FC (N : Int) zs (trk ts k) := by
  intro m
  induction m with
  | zero =>
   intro i cnt F hi hc hl hF
   obtain ⟨cnt, rfl⟩ : ∃ c, cnt = c + 1 := ⟨cnt - 1, by omega⟩
   refine ⟨F, ?_, by omega, fun k hk => hF k (by omega)⟩
   rw [AW, CO]
   simp only [Ql N h.hN, hT]
   rw [CY, decide_eq_false (by omega)]
  | succ m ih =>
   intro i cnt F hi hc hl hF
   obtain ⟨cnt, rfl⟩ : ∃ c, cnt = c + 1 := ⟨cnt - 1, by omega⟩
   obtain ⟨zs, e, hz⟩ := h.Aev i
   rw [AW, CO]
   simp only [Ql N h.hN, hT]
   rw [CY, decide_eq_true (by omega)]
   simp only [e, Bb, Bool.not_true]
   rw [A2 (by simp only [AL, List.length_cons, List.length_nil]; omega), AN (by omega)]
   refine ih (i + 1) cnt _ (by omega) (by omega) (by rw [Bv, List.length_append, hl]; rfl) fun k hk => ?_
   rw [Bv]
   by_cases hki : k < i
   ·rw [List.getElem?_append_left (by omega)]; exact hF k hki
   ·have : k = i := by omega
    subst this
    rw [List.getElem?_append_right (by omega), hl, Nat.sub_self]
    exact ⟨zs, rfl, hz⟩
 obtain ⟨F', e, hl, hF⟩ := key (T + 1) 0 many [] (by omega) (by simp only [many]; omega) rfl (fun k hk => by omega)
 have e' : AT CO many ((N : Int), ts, [], (0 : Int), ()) = _ := (Aj _ _ _).trans e
 refine ⟨F', by simp only [e'], by omega, fun k hk => hF k (by omega)⟩
noncomputable def ABT (ts : List Tie) (t : Tie) : Bool := !t.2.2.2.1 && !Ca (trk ts t.2.2.1) t.1 t.2.1
theorem AWv (ts : List Tie) : (!ts.any (ABT ts)) = DZ (PW ts) := by
 refine I4 ?_
 rw [Bool.not_eq_true', List.any_eq_false]
 unfold ABT PW
 constructor
 ·intro h t ht hf
  have := h t ht
  rw [hf] at this
  rw [← BH]
  simpa using this
 ·intro h t ht
  cases hf : t.2.2.2.1
  ·have := h t ht hf
   rw [← BH] at this
   simp [this]
  ·simp
theorem RG2.tie {N : Nat} {ts : List Tie} (h : RG2 N ts) {t : Tie} (ht : t ∈ ts) : In (N : Int) t.1 ∧ In (N : Int) t.2.1 ∧ t.1 < t.2.1 ∧ 0 ≤ t.2.2.1 ∧ t.2.2.1 ≤ F8 N := by
 have h1 := ((M3 N ts).1 h.oks).1 t ht
 have h2 := h.inE (ed t) (List.mem_map.2 ⟨t, ht, rfl⟩)
 exact ⟨h2.1, h2.2, h1.2.1, h1.2.2.2.1, h1.2.2.2.2⟩
theorem ANF {N : Nat} {ts : List Tie} (h : RG2 N ts) : Mk (((N : Int), (ts, ())), ()) = some (DZ (PW ts), ()) := by
 obtain ⟨F, e, hl, hF⟩ := h.hN |> fun _ => Nq h
 have ht := h.ht
 have ht0 := Fh h.hN
 rw [ZY, Mj]
 simp only [e]
 rw [Ai, decide_eq_false (by rw [AL]; omega)]
 simp only []
 rw [Kk, Ec, Le, Fe]
 have e2 := DC (step := Bt) (fun i => (F, ts, AO ts, (i : Int), ())) ts (ABT ts) (fun i => .inl (F, (i : Int), ())) (.inr (.inl (F, ()))) (by omega)
  (fun i x hi hx => by
   obtain ⟨i1, i2, _, l1, l2⟩ := h.tie (List.mem_of_getElem? hx)
   obtain ⟨k, hk⟩ := Int.eq_ofNat_of_zero_le l1
   obtain ⟨zs, f1, f2⟩ := hF k (by omega)
   rw [Bt, AL, AM, decide_eq_true hi]
   simp only [Ac hx, hk, Ac f1, Aax f2 i1 i2]
   rw [AN (by omega)]
   unfold ABT
   rw [hk]
   cases x.2.2.2.1
   ·cases Ca (trk ts (k : Int)) x.1 x.2.1 <;> simp
   ·simp)
  (by rw [Bt, AL, AM, decide_eq_false (by omega)])
 have e' : AT Bt many (F, ts, AO ts, (0 : Int), ()) = _ := e2
 simp only [e']
 rw [← AWv]
 by_cases ha : ts.any (ABT ts) = true
 ·rw [if_pos ha, ha]
  simp only [An]
  rw [decide_eq_true (by omega)]
 ·rw [if_neg ha]
  simp only [An]
  have : ts.any (ABT ts) = false := by simpa using ha
  rw [this]
  rfl
end Go.Pev.Pl
end
section
namespace Go.Pev.Pl
open Tok
set_option linter.unusedSimpArgs false
set_option maxRecDepth 100000
noncomputable def UY (N : Nat) (ts : List Tie) (k : Nat) : Bool := (List.range N).any fun v => decide (max 1 (N / 2 ^ k) < csz N (trk ts k) (v : Int))
def BX (N : Nat) : Nat := (F8 N).toNat
theorem DK {N : Nat} (hN : N ≤ 64) : F8 N = (BX N : Int) := by
 have := Fh hN
 unfold BX
 omega
theorem AHm {N : Nat} (hN : N ≤ 64) : BX N < 64 := by
 have : ((List.range 65).all fun k => decide (F8 k < 64)) = true := by kernel_rfl
 have h1 := of_decide_eq_true (List.all_eq_true.1 this N (by simp; omega))
 have := DK hN
 omega
theorem AQm {N : Nat} (hN : N ≤ 64) (ts : List Tie) : (!(List.range (BX N + 1)).any (UY N ts)) = DZ (JQ N ts) := by
 refine I4 ?_
 rw [Bool.not_eq_true', List.any_eq_false]
 unfold UY JQ
 constructor
 ·intro h k hk v hv
  have h1 := h k (by rw [List.mem_range]; have := DK hN; omega)
  rw [Bool.not_eq_true, List.any_eq_false] at h1
  have := h1 v (by simpa using hv)
  rw [decide_eq_true_iff] at this
  omega
 ·intro h k hk
  rw [List.mem_range] at hk
  rw [Bool.not_eq_true, List.any_eq_false]
  intro v hv
  have := h k (by rw [DK hN]; omega) v (by simpa using hv)
  rw [decide_eq_true_iff]
  omega
theorem RI (N : Nat) (l : List Edge) (v : Int) : csz N l v ≤ N := by
 unfold csz
 have := List.countP_le_length (p := fun (w : Nat) => Ca l v (w : Int)) (l := List.range N)
 rw [List.length_range] at this
 exact this
theorem AgH (n s : Nat) (h : s < 64) : shr? .i64 (n : Int) (s : Int) = some ((n / 2 ^ s : Nat) : Int) := by
 rw [AIt, Zt, if_neg (by omega), Int.toNat_natCast, show min s (IntKind.bits .i64) = s from Nat.min_eq_left (by show s ≤ 64; omega), Int.fdiv_eq_ediv_of_nonneg _ (Int.pow_nonneg (by omega))]
 rfl
theorem AbU (n : Nat) (h : n < 18446744073709551616) : IntKind.wrap .u64 (n : Int) = (n : Int) := IntWalk.u64_in _ (by omega)
theorem AEL {N : Nat} {ts : List Tie} (hN : N ≤ 64) (F : List ALv) (k q : Nat) (hk : k < 64) (L : Int) {zs : List (List Int)} (h1 : 1 ≤ N) (hF : FC (N : Int) zs (trk ts k)) :
  AT Bx many ((N : Int), ts, F, (k : Int), (N : Int), zs, L, (q : Int), (N : Int), (0 : Int), ()) = some (if UY N ts k then .inl (false, ()) else .inr (.inl ((N : Int), ts, F, L, (q : Int), ()))) := by
 have e := DC (step := Bx) (fun i => ((N : Int), ts, F, (k : Int), (N : Int), zs, L, (q : Int), (N : Int), (i : Int), ())) (List.range N) (fun v => decide (max 1 (N / 2 ^ k) < csz N (trk ts k) (v : Int))) (fun _ => .inl (false, ())) (.inr (.inl ((N : Int), ts, F, L, (q : Int), ()))) (by simp; omega)
  (fun i x hi hx => by
   have := BO hx
   subst this
   rw [List.length_range] at hi
   have hle := RI N (trk ts k) (x : Int)
   have hdl : N / 2 ^ k ≤ N := Nat.div_le_self _ _
   rw [Bx, AM, decide_eq_true hi]
   simp only [Aap hF (AXF h1 hN (a := (x : Int)) ⟨by omega, by omega⟩), AbU k (by omega), AgH N k hk, Qt]
   rw [AN (by omega), Ah]
   have : decide (max (1 : Int) ((N / 2 ^ k : Nat) : Int) < (csz N (trk ts k) (x : Int) : Int)) = decide (max 1 (N / 2 ^ k) < csz N (trk ts k) (x : Int)) := decide_eq_decide.2 (by omega)
   rw [this]
   cases decide (max 1 (N / 2 ^ k) < csz N (trk ts k) (x : Int)) <;> simp)
  (by rw [Bx, List.length_range, AM, decide_eq_false (by omega)])
 have e' : AT Bx many ((N : Int), ts, F, (k : Int), (N : Int), zs, L, (q : Int), (N : Int), (0 : Int), ()) = _ := e
 rw [e']
 rfl
theorem AEK {N : Nat} {ts : List Tie} (h : RG2 N ts) : Ep (((N : Int), (ts, ())), ()) = some (DZ (JQ N ts), ()) := by
 obtain ⟨F, e, hl, hF⟩ := Nq h
 have ht := h.ht
 have hT := AHm h.hN
 have hTe := DK h.hN
 have hFl : F.length = BX N + 1 := by omega
 rw [QA, Hp]
 simp only [e]
 have e2 := DC (step := CN) (fun i => ((N : Int), ts, F, AO F, (i : Int), ())) (List.range (BX N + 1)) (UY N ts) (fun _ => .inl (false, ())) (.inr (.inl (F, ()))) (by simp; omega)
  (fun i x hi hx => by
   have := BO hx
   subst this
   rw [List.length_range] at hi
   obtain ⟨zs, f1, f2⟩ := hF x (by omega)
   rw [CN, AL, hFl, AM, decide_eq_true hi]
   simp only [Ac f1, Gs f1, AEL h.hN F x x (by omega) _ h.h1 f2]
   cases UY N ts x
   ·simp only [Bool.false_eq_true, if_false]
    rw [AN (by omega)]
   ·rfl)
  (by rw [CN, List.length_range, AL, hFl, AM, decide_eq_false (by omega)])
 have e' : AT CN many ((N : Int), ts, F, AO F, (0 : Int), ()) = _ := e2
 simp only [e']
 rw [← AQm h.hN]
 cases (List.range (BX N + 1)).any (UY N ts)
 ·simp only [Bool.false_eq_true, if_false, AL, Ah]
  rw [decide_eq_true (by omega)]
  rfl
 ·rfl
theorem Fj {N : Nat} {ts : List Tie} (h : RG2 N ts) : GV (((N : Int), (ts, ())), ()) = some (DZ (Hc ts ∧ PW ts ∧ JQ N ts), ()) := by
 rw [OM, Iy]
 simp only [AR0 h, ANF h, AEK h]
 by_cases q1 : Hc ts
 ·rw [(BM _).2 q1]
  by_cases q2 : PW ts
  ·rw [(BM _).2 q2]
   simp only []
   congr 2
   exact I4 (by rw [BM]; exact ⟨fun q => ⟨q1, q2, q⟩, fun q => q.2.2⟩)
  ·have e1 : DZ (PW ts) = false := by rw [← Bool.not_eq_true, BM]; exact q2
   have e2 : DZ (Hc ts ∧ PW ts ∧ JQ N ts) = false := by rw [← Bool.not_eq_true, BM]; exact fun q => q2 q.2.1
   rw [e1, e2]
 ·have e1 : DZ (Hc ts) = false := by rw [← Bool.not_eq_true, BM]; exact q1
  have e2 : DZ (Hc ts ∧ PW ts ∧ JQ N ts) = false := by rw [← Bool.not_eq_true, BM]; exact fun q => q1 q.1
  rw [e1, e2]
theorem RG2.snd {N : Nat} {ts : List Tie} (h : RG2 N ts) (hs : Hc ts ∧ PW ts ∧ JQ N ts) : Snd N (BX N : Int) ts := by
 refine ⟨fun x hx => ?_, fun x hx => AKT (h.inE _ (List.mem_map.2 ⟨x, hx, rfl⟩)), h.fo0, hs.2.1, fun k hk v hv => hs.2.2 k (by rw [DK h.hN]; exact hk) v hv⟩
 rw [← DK h.hN]
 exact (h.tie hx).2.2.2
theorem Snd.parts {N : Nat} {ts : List Tie} (h : RG2 N ts) (hs : Snd N (BX N : Int) ts) : Hc ts ∧ PW ts ∧ JQ N ts := by
 refine ⟨fun e he => (hs.span _ _).1 (.edge e he), hs.lie, fun k hk v hv => hs.halv k (by rw [← DK h.hN]; exact hk) v hv⟩
end Go.Pev.Pl
end
section
namespace Go.Pev.Pl
open Tok
set_option linter.unusedSimpArgs false
set_option maxRecDepth 100000
theorem ALl : IJ () = some (true, ()) := by
 rw [show IJ () = @IJ idI () from congrArg (fun i => @IJ i ()) ABo]
 kernel_rfl
theorem AR2 (n : Int) (ts : List Tie) (hr : EV ((n, (ts, ())), ()) = some (false, ())) : Kz ((n, (ts, ())), ()) = some (false, ()) := by
 have hl : J4 ((n, (ts, ())), (0 : Int), ()) = some ((0, ([], ())), 1, ()) := by
  rw [On, JA]
  simp only [hr, Bool.not_false]
 rw [Si, Ky]
 simp only [hl, Ai]
 rfl
theorem ANE (n : Int) (ts : List Tie) (hr : EV ((n, (ts, ())), ()) = some (false, ())) : GV ((n, (ts, ())), ()) = some (false, ()) := by
 rw [OM, Iy]
 simp only [AR2 n ts hr]
theorem APx (n : Int) (ts : List Tie) : NF ((n, (ts, ())), ()) = some (true, ()) ∨ (NF ((n, (ts, ())), ()) = some (false, ()) ∧ ts.length ≤ 30 ∧ n ≤ 12) := by
 rw [ACS, ND]
 simp only [AL, Ah]
 by_cases h1 : (30 : Int) < ts.length
 ·left; simp only [decide_eq_true h1]
 by_cases h2 : (12 : Int) < n
 ·left; simp only [decide_eq_false h1, decide_eq_true h2]
 ·right; simp only [decide_eq_false h1, decide_eq_false h2]; exact ⟨trivial, by omega, by omega⟩
theorem Afo {N : Nat} (hN : N ≤ 64) : N / 2 ^ BX N ≤ 1 := by
 have : ((List.range 65).all fun k => decide (k / 2 ^ BX k ≤ 1)) = true := by kernel_rfl
 exact of_decide_eq_true (List.all_eq_true.1 this N (by simp; omega))
theorem RG2.below {N : Nat} {ts : List Tie} (h : RG2 N ts) (hs : Snd N (BX N : Int) ts) {t : Tie} (ht : t ∈ ts) : t.2.2.1 < (BX N : Int) :=
 hs.below (Afo h.hN) ht (by have := (h.tie ht).2.2.1; omega)
end Go.Pev.Pl
end
section
namespace Go.Pev.Pl
open Tok
set_option linter.unusedSimpArgs false
set_option maxRecDepth 100000
noncomputable def J0 (N : Nat) (l : List Edge) (v : Int) : List Int := ((List.range N).filter fun (w : Nat) => Ca l v (w : Int)).map fun (w : Nat) => (w : Int)
theorem LS (N : Nat) (l : List Edge) (v : Int) : (J0 N l v).length = csz N l v := by
 unfold J0 csz
 rw [List.length_map, List.countP_eq_length_filter]
theorem ABY {N : Nat} {l : List Edge} {v x : Int} : x ∈ J0 N l v ↔ (0 ≤ x ∧ x < (N : Int)) ∧ Con l v x := by
 unfold J0
 simp only [List.mem_map, List.mem_filter, List.mem_range, BH]
 constructor
 ·rintro ⟨w, ⟨h1, h2⟩, rfl⟩
  exact ⟨by omega, h2⟩
 ·rintro ⟨⟨h1, h2⟩, h3⟩
  obtain ⟨w, rfl⟩ := Int.eq_ofNat_of_zero_le h1
  exact ⟨w, ⟨by omega, h3⟩, rfl⟩
theorem Ib {N : Nat} (h1 : 1 ≤ N) (hN : N ≤ 64) (ts : List Tie) (ht : ts.length ≤ 400) (hin : ∀ e ∈ ts.map ed, In (N : Int) e.1 ∧ In (N : Int) e.2.1) (v : Nat) (hv : v < N) (k : Int) : E2 (((N : Int), (ts, ())), (v : Int), k, ()) = some (J0 N (trk ts k) (v : Int), ()) := by
 obtain ⟨o, e1, c1⟩ := B7 (N : Int) (trk ts k) ⟨by omega, by omega⟩ (by have := AWD ts k; omega) (fun e he => hin e (Pv ts k e he))
 have ho : o.length = N := by have := c1.len; omega
 have hi : ∀ k : Nat, k < N → In (N : Int) (k : Int) := fun k hk => AXF h1 hN ⟨by omega, by omega⟩
 have hg : ∀ k : Nat, o.getD k 0 = cl o (k : Int) := fun k => by unfold cl; rw [Int.toNat_natCast]
 rw [Qi, Hy]
 simp only [SR (N : Int) ts ht, e1]
 have e := B9 (step := CV) (fun i (a : List Int) => ((v : Int), (N : Int), ts, o, a, (i : Int), ())) (List.range N) (fun (w : Nat) a => .inl (if Ca (trk ts k) (v : Int) (w : Int) = true then a ++ [(w : Int)] else a)) (fun a => .inl (a, ())) (fun i a => a.length ≤ i) (by simp; omega)
  (fun i x a hx0 hx ha => by
   refine ⟨fun m' h' => ?_, fun r h' => (by cases h')⟩
   cases h'
   have := BO hx
   subst this
   rw [List.length_range] at hx0
   constructor
   ·rw [CV, AM, decide_eq_true hx0]
    simp only [Bf 0 (show x < o.length by omega), Bf 0 (show v < o.length by omega), D0, Ai]
    rw [A2 (by simp only [AL, List.length_cons, List.length_nil]; omega), AN (by omega)]
    have : decide (o.getD x 0 = o.getD v 0) = Ca (trk ts k) (v : Int) (x : Int) := by
     rw [Bool.eq_iff_iff, decide_eq_true_iff, BH, hg, hg, c1.same _ _ (hi x hx0) (hi v hv)]
     exact ⟨fun c => c.symm, fun c => c.symm⟩
    rw [this]
    cases Ca (trk ts k) (v : Int) (x : Int) <;> simp [Aq]
   ·split
    ·rw [List.length_append]; simp; omega
    ·omega)
  (fun a _ => by rw [CV, List.length_range, AM, decide_eq_false (by omega)]) [] (Nat.le_refl _)
 have e' : AT CV many ((v : Int), (N : Int), ts, o, [], (0 : Int), ()) = _ := e
 simp only [e']
 rw [BA (fun (w : Nat) (a : List Int) => if Ca (trk ts k) (v : Int) (w : Int) = true then a ++ [(w : Int)] else a), Gb (fun w : Nat => Ca (trk ts k) (v : Int) (w : Int) = true) (fun w : Nat => (w : Int))]
 unfold J0
 simp
theorem T8 (l : List Int) (x : Int) (hs : l.length < 1073741824) : JD (l, x, ()) = some (decide (x ∈ l), ()) := by
 rw [APp, Xv]
 have e := DC (step := HO) (fun i => (l, x, (i : Int), ())) l (fun y => decide (y = x)) (fun _ => .inl (true, ())) (.inr (.inl ())) (by omega)
  (fun i y hi hy => by
   rw [HO, AL, AM, decide_eq_true hi]
   simp only [Ac hy, Ai]
   rw [AN (by omega)]
   by_cases h : y = x <;> simp [h])
  (by rw [HO, AL, AM, decide_eq_false (by omega)])
 have e' : AT HO many (l, x, (0 : Int), ()) = _ := e
 simp only [e']
 rw [ALk]
 by_cases h : x ∈ l
 ·simp [h]
 ·simp [h]
theorem ACJ (n : Int) (ts : List Tie) (v : Int) : AEx ((n, (ts, ())), v, ()) = some (decide (0 ≤ v ∧ v < n), ()) := by
 rw [AXG, AKU, An]
 by_cases h : 0 ≤ v
 ·rw [decide_eq_true h, Ah]
  by_cases h2 : v < n
  ·rw [decide_eq_true h2, decide_eq_true (show 0 ≤ v ∧ v < n from ⟨h, h2⟩)]
  ·rw [decide_eq_false h2, decide_eq_false (fun q : 0 ≤ v ∧ v < n => h2 q.2)]
 ·rw [decide_eq_false h, decide_eq_false (fun q : 0 ≤ v ∧ v < n => h q.1)]
noncomputable def DY (N : Nat) (ts : List Tie) (u v k : Int) : List Int :=
 if DZ (RG2 N ts) = true then
  if Ca (trk ts k) u v = true then [] else
  if csz N (trk ts k) u < csz N (trk ts k) v ∨ (csz N (trk ts k) u = csz N (trk ts k) v ∧ (J0 N (trk ts k) u).headD 0 < (J0 N (trk ts k) v).headD 0) then J0 N (trk ts k) u else J0 N (trk ts k) v
 else []
theorem AYp (N : Nat) (ts : List Tie) (u v k : Int) : (DY N ts u v k).length ≤ N := by
 unfold DY
 have h1 := RI N (trk ts k) u
 have h2 := RI N (trk ts k) v
 split
 ·split
  ·simp
  ·split
   ·rw [LS]; exact h1
   ·rw [LS]; exact h2
 ·simp
theorem AGK {N : Nat} {l : List Edge} {v : Nat} (hv : v < N) : idx (J0 N l (v : Int)) (0 : Int) = some ((J0 N l (v : Int)).headD 0) := by
 have : (v : Int) ∈ J0 N l (v : Int) := ABY.2 ⟨⟨by omega, by omega⟩, .refl _⟩
 cases hm : J0 N l (v : Int) with
 | nil => rw [hm] at this; cases this
 | cons a b => rw [EX]; rfl
theorem ASC {N : Nat} (hN : N ≤ 64) (ts : List Tie) (ht : ts.length ≤ 400) (u v : Nat) (hu : u < N) (hv : v < N) (k : Int) : ∃ e, Zs (((N : Int), (ts, ())), (u : Int), (v : Int), k, ()) = some (DY N ts u v k, e, ()) := by
 rw [AFr, QH]
 rcases AF5 (N : Int) ts (by omega) with ⟨r, _⟩ | ⟨N', hn, h⟩
 ·have : DZ (RG2 N ts) = false := by
   rw [← Bool.not_eq_true, BM]
   intro h
   rw [h.r21] at r; cases r
  refine ⟨1, ?_⟩
  unfold DY
  rw [this]
  simp only [r, Bool.not_false]
  rfl
 ·have : N' = N := by omega
  subst this
  have hu1 := Ib h.h1 h.hN ts ht h.inE u hu k
  have hv1 := Ib h.h1 h.hN ts ht h.inE v hv k
  have l1 := LS N' (trk ts k) (u : Int)
  have l2 := LS N' (trk ts k) (v : Int)
  have b1 := RI N' (trk ts k) (u : Int)
  have hh := T8 (J0 N' (trk ts k) (u : Int)) (v : Int) (by omega)
  have hd : decide ((v : Int) ∈ J0 N' (trk ts k) (u : Int)) = Ca (trk ts k) (u : Int) (v : Int) := by
   rw [Bool.eq_iff_iff, decide_eq_true_iff, BH, ABY]
   exact ⟨fun q => q.2, fun q => ⟨⟨by omega, by omega⟩, q⟩⟩
  rw [hd] at hh
  unfold DY
  rw [(BM _).2 h, if_pos rfl]
  simp only [h.r21, Bool.not_true, ACJ, hu1, hv1, hh]
  rw [decide_eq_true (show 0 ≤ (u : Int) ∧ (u : Int) < (N' : Int) by omega), decide_eq_true (show 0 ≤ (v : Int) ∧ (v : Int) < (N' : Int) by omega)]
  simp only [Bool.not_true]
  cases hc : Ca (trk ts k) (u : Int) (v : Int)
  ·simp only [Bool.false_eq_true, if_false, AL, l1, l2, AM, Xt]
   by_cases q1 : csz N' (trk ts k) (u : Int) < csz N' (trk ts k) (v : Int)
   ·rw [decide_eq_true q1, if_pos (.inl q1)]
    exact ⟨0, rfl⟩
   ·rw [decide_eq_false q1]
    by_cases q2 : csz N' (trk ts k) (u : Int) = csz N' (trk ts k) (v : Int)
    ·rw [decide_eq_true q2]
     have hg : ∀ l : List Int, AS l 0 0 = l.headD 0 := fun l => by cases l <;> rfl
     simp only [AGK hu, AGK hv, hg, Ah]
     by_cases q3 : (J0 N' (trk ts k) (u : Int)).headD 0 < (J0 N' (trk ts k) (v : Int)).headD 0
     ·rw [decide_eq_true q3, if_pos (.inr ⟨q2, q3⟩)]
      exact ⟨0, rfl⟩
     ·rw [decide_eq_false q3, if_neg (fun q => by rcases q with q | q; exact q1 q; exact q3 q.2)]
      exact ⟨0, rfl⟩
    ·rw [decide_eq_false q2, if_neg (fun q => by rcases q with q | q; exact q1 q; exact q2 q.1)]
     exact ⟨0, rfl⟩
  ·simp only [if_true]
   exact ⟨5, rfl⟩
end Go.Pev.Pl
end
section
namespace Go.Pev.Pl
open Tok
set_option linter.unusedSimpArgs false
set_option maxRecDepth 100000
abbrev W23 := Int × Bool × Bool × Int × Int × Int × Int × Int × Int × Bool
theorem AWC {α : Type} {A R : List α} {x : α} {i : Nat} (h : A.length = i) : (A ++ x :: R)[i]? = some x := by
 rw [List.getElem?_append_right (by omega), h, Nat.sub_self]; rfl
theorem XZ {α : Type} {A R : List α} {x y : α} {i : Nat} (h : A.length = i) : Ap (A ++ x :: R) (AJ (i : Int)) y = A ++ y :: R := by
 rw [PI, List.set_append_right _ _ (by omega), h, Nat.sub_self]; rfl
noncomputable def Ak (s : List Int) (w : Int) : Bool := decide (w ∈ s)
def RO (S : Int → Bool) (i : Int) (ts : List Tie) : Nat := ts.countP fun t => t.2.2.2.1 && (decide (t.2.2.1 = i) && both S t)
theorem AOt (w : W23) (wt wf : Bool) (bu bv top : Int) (i : Nat) (hi : i < 64) (s : List Int) (hs : s.length ≤ 64) (n : Int) (b : Bool) (O : List Tie) (hO : O.length ≤ 400) (r : Nat) (hr : r < 1073741824) :
  AT Fu many (w.1, w.2.1, w.2.2.1, w.2.2.2.1, w.2.2.2.2.1, w.2.2.2.2.2.1, w.2.2.2.2.2.2.1, w.2.2.2.2.2.2.2.1, w.2.2.2.2.2.2.2.2.1, w.2.2.2.2.2.2.2.2.2, n, O, wt, wf, bu, bv, (r : Int), top, (i : Int), s, (0 : Int), b, ()) =
  some (.inl (w.1, w.2.1, w.2.2.1, w.2.2.2.1, w.2.2.2.2.1, w.2.2.2.2.2.1, w.2.2.2.2.2.2.1, w.2.2.2.2.2.2.2.1, w.2.2.2.2.2.2.2.2.1, w.2.2.2.2.2.2.2.2.2, n, O.map (rT (Ak s) top i), wt, wf, bu, bv, ((r + RO (Ak s) i O : Nat) : Int), top, (i : Int), s, b, ())) := by
 obtain ⟨w0, w1, w2, w3, w4, w5, w6, w7, w8, w9⟩ := w
 simp only
 have key : ∀ (R A : List Tie) (j cnt q : Nat), A.length = j → A.length + R.length = O.length → R.length < cnt → q + R.length < 2147483648 →
   AW Fu cnt (w0, w1, w2, w3, w4, w5, w6, w7, w8, w9, n, A ++ R, wt, wf, bu, bv, (q : Int), top, (i : Int), s, (j : Int), b, ()) =
   some (.inl (w0, w1, w2, w3, w4, w5, w6, w7, w8, w9, n, A ++ R.map (rT (Ak s) top i), wt, wf, bu, bv, ((q + RO (Ak s) i R : Nat) : Int), top, (i : Int), s, b, ())) := by
  intro R
  induction R with
  | nil =>
   intro A j cnt q hA hl hc hq
   obtain ⟨cnt, rfl⟩ : ∃ c, cnt = c + 1 := ⟨cnt - 1, by omega⟩
   rw [AW, Fu, AL, AM, decide_eq_false (by simp; omega)]
   simp [RO]
  | cons x R ih =>
   intro A j cnt q hA hl hc hq
   obtain ⟨cnt, rfl⟩ : ∃ c, cnt = c + 1 := ⟨cnt - 1, by omega⟩
   rw [List.length_cons] at hl hc hq
   have hg := AWC (R := R) (x := x) hA
   have next : ∀ (y : Tie) (q' : Nat), q' + R.length < 2147483648 → rT (Ak s) top i x = y → q' + RO (Ak s) i R = q + RO (Ak s) i (x :: R) →
     AW Fu cnt (w0, w1, w2, w3, w4, w5, w6, w7, w8, w9, n, A ++ y :: R, wt, wf, bu, bv, (q' : Int), top, (i : Int), s, ((j + 1 : Nat) : Int), b, ()) =
     some (.inl (w0, w1, w2, w3, w4, w5, w6, w7, w8, w9, n, A ++ (x :: R).map (rT (Ak s) top i), wt, wf, bu, bv, ((q + RO (Ak s) i (x :: R) : Nat) : Int), top, (i : Int), s, b, ())) := by
    intro y q' hq' hy hcnt
    have := ih (A ++ [y]) (j + 1) cnt q' (by simp [hA]) (by simp; omega) (by omega) hq'
    rw [List.append_assoc] at this
    rw [List.singleton_append] at this
    rw [this, hcnt, List.map_cons, hy, List.append_assoc]
    rfl
   have hcc : RO (Ak s) i (x :: R) = RO (Ak s) i R + if (x.2.2.2.1 && (decide (x.2.2.1 = (i : Int)) && both (Ak s) x)) = true then 1 else 0 := by
    unfold RO
    rw [List.countP_cons]
   rw [AW, Fu, AL, AM, decide_eq_true (by simp; omega)]
   simp only [Ac hg, Gs hg]
   rw [AN (show j + 1 < 9223372036854775808 by omega), AN (show q + 1 < 9223372036854775808 by omega), Ai]
   simp only [T8 s _ (show s.length < 1073741824 by omega)]
   cases h4 : x.2.2.2.1
   ·simp only []
    refine next x q (by omega) ?_ ?_
    ·exact Hs h4
    ·rw [hcc, h4]; simp
   ·by_cases h3 : x.2.2.1 = (i : Int)
    ·rw [decide_eq_true h3]
     simp only []
     by_cases h1 : x.1 ∈ s
     ·rw [decide_eq_true h1]
      simp only []
      by_cases h2 : x.2.1 ∈ s
      ·rw [decide_eq_true h2]
       simp only []
       have hb : both (Ak s) x = true := by unfold both Ak; rw [decide_eq_true h1, decide_eq_true h2]; rfl
       rw [XZ hA, Qs, AN (show i + 1 < 9223372036854775808 by omega)]
       refine next _ (q + 1) (by omega) ?_ ?_
       ·unfold rT
        rw [if_pos ⟨h4, h3, hb⟩]
        unfold IX
        rw [h3, h4]
        rfl
       ·rw [hcc, h4, decide_eq_true h3, hb]; simp; omega
      ·rw [decide_eq_false h2]
       simp only []
       have hb : both (Ak s) x = false := by unfold both Ak; rw [decide_eq_false h2, Bool.and_false]
       refine next x q (by omega) ?_ ?_
       ·unfold rT
        rw [if_neg (fun hh => by rw [hb] at hh; exact absurd hh.2.2 (by simp))]
       ·rw [hcc, hb]; simp
     ·rw [decide_eq_false h1]
      simp only []
      have hb : both (Ak s) x = false := by unfold both Ak; rw [decide_eq_false h1, Bool.false_and]
      refine next x q (by omega) ?_ ?_
      ·unfold rT
       rw [if_neg (fun hh => by rw [hb] at hh; exact absurd hh.2.2 (by simp))]
      ·rw [hcc, hb]; simp
    ·rw [decide_eq_false h3]
     simp only []
     refine next x q (by omega) ?_ ?_
     ·unfold rT
      rw [if_neg (fun hh => h3 hh.2.1)]
     ·rw [hcc, decide_eq_false h3]; simp
 have := key O [] 0 many r rfl (by simp) (by simp only [many]; omega) (by omega)
 rw [Aj]
 exact this
theorem AJr (w : W23) (wt wf : Bool) (bu bv top : Int) (i : Nat) (hi : i < 64) (s : List Int) (hs : s.length ≤ 64) (n : Int) (b : Bool) (O : List Tie) (hO : O.length ≤ 400) (r : Nat) (hr : r < 1073741824) :
  AT Ft many (w.1, w.2.1, w.2.2.1, w.2.2.2.1, w.2.2.2.2.1, w.2.2.2.2.2.1, w.2.2.2.2.2.2.1, w.2.2.2.2.2.2.2.1, w.2.2.2.2.2.2.2.2.1, w.2.2.2.2.2.2.2.2.2, n, O, wt, wf, bu, bv, (r : Int), top, (i : Int), s, (0 : Int), b, ()) =
  some (match (A0 (Ak s) top i O).2.2 with
   | some e => .inl (n, (A0 (Ak s) top i O).1, wt, true, e.1, e.2.1, ((r + (A0 (Ak s) top i O).2.1 : Nat) : Int), (0 : Int), ())
   | none => .inr (.inl (w.1, w.2.1, w.2.2.1, w.2.2.2.1, w.2.2.2.2.1, w.2.2.2.2.2.1, w.2.2.2.2.2.2.1, w.2.2.2.2.2.2.2.1, w.2.2.2.2.2.2.2.2.1, w.2.2.2.2.2.2.2.2.2, n, (A0 (Ak s) top i O).1, wt, wf, bu, bv, ((r + (A0 (Ak s) top i O).2.1 : Nat) : Int), top, (i : Int), b, ()))) := by
 obtain ⟨w0, w1, w2, w3, w4, w5, w6, w7, w8, w9⟩ := w
 simp only
 have key : ∀ (R A : List Tie) (j cnt q : Nat), A.length = j → A.length + R.length = O.length → R.length < cnt → q + R.length < 2147483648 →
   AW Ft cnt (w0, w1, w2, w3, w4, w5, w6, w7, w8, w9, n, A ++ R, wt, wf, bu, bv, (q : Int), top, (i : Int), s, (j : Int), b, ()) =
   some (match (A0 (Ak s) top i R).2.2 with
    | some e => .inl (n, A ++ (A0 (Ak s) top i R).1, wt, true, e.1, e.2.1, ((q + (A0 (Ak s) top i R).2.1 : Nat) : Int), (0 : Int), ())
    | none => .inr (.inl (w0, w1, w2, w3, w4, w5, w6, w7, w8, w9, n, A ++ (A0 (Ak s) top i R).1, wt, wf, bu, bv, ((q + (A0 (Ak s) top i R).2.1 : Nat) : Int), top, (i : Int), b, ()))) := by
  intro R
  induction R with
  | nil =>
   intro A j cnt q hA hl hc hq
   obtain ⟨cnt, rfl⟩ : ∃ c, cnt = c + 1 := ⟨cnt - 1, by omega⟩
   rw [AW, Ft, AL, AM, decide_eq_false (by simp; omega)]
   rfl
  | cons x R ih =>
   intro A j cnt q hA hl hc hq
   obtain ⟨cnt, rfl⟩ : ∃ c, cnt = c + 1 := ⟨cnt - 1, by omega⟩
   rw [List.length_cons] at hl hc hq
   have hg := AWC (R := R) (x := x) hA
   have next : ∀ (y : Tie) (q' : Nat), q' + R.length < 2147483648 → A0 (Ak s) top i (x :: R) = (y :: (A0 (Ak s) top i R).1, (A0 (Ak s) top i R).2.1 + (q' - q), (A0 (Ak s) top i R).2.2) → q ≤ q' →
     AW Ft cnt (w0, w1, w2, w3, w4, w5, w6, w7, w8, w9, n, A ++ y :: R, wt, wf, bu, bv, (q' : Int), top, (i : Int), s, ((j + 1 : Nat) : Int), b, ()) =
     some (match (A0 (Ak s) top i (x :: R)).2.2 with
     | some e => .inl (n, A ++ (A0 (Ak s) top i (x :: R)).1, wt, true, e.1, e.2.1, ((q + (A0 (Ak s) top i (x :: R)).2.1 : Nat) : Int), (0 : Int), ())
     | none => .inr (.inl (w0, w1, w2, w3, w4, w5, w6, w7, w8, w9, n, A ++ (A0 (Ak s) top i (x :: R)).1, wt, wf, bu, bv, ((q + (A0 (Ak s) top i (x :: R)).2.1 : Nat) : Int), top, (i : Int), b, ()))) := by
    intro y q' hq' hy hqq
    have := ih (A ++ [y]) (j + 1) cnt q' (by simp [hA]) (by simp; omega) (by omega) hq'
    rw [List.append_assoc, List.singleton_append] at this
    rw [this, hy]
    have e1 : A ++ [y] ++ (A0 (Ak s) top i R).1 = A ++ y :: (A0 (Ak s) top i R).1 := by simp
    have e2 : q' + (A0 (Ak s) top i R).2.1 = q + ((A0 (Ak s) top i R).2.1 + (q' - q)) := by omega
    rw [e1, e2]
   rw [AW, Ft, AL, AM, decide_eq_true (by simp; omega)]
   simp only [Ac hg, Gs hg]
   rw [AN (show j + 1 < 9223372036854775808 by omega), AN (show q + 1 < 9223372036854775808 by omega), Ai]
   simp only [T8 s _ (show s.length < 1073741824 by omega)]
   have skip : (x.2.2.2.1 = true ∨ x.2.2.1 ≠ (i : Int)) → A0 (Ak s) top i (x :: R) = (x :: (A0 (Ak s) top i R).1, (A0 (Ak s) top i R).2.1 + (q - q), (A0 (Ak s) top i R).2.2) := fun h => by
    rw [A0, if_pos h, Nat.sub_self]; rfl
   cases h4 : x.2.2.2.1
   ·simp only []
    by_cases h3 : x.2.2.1 = (i : Int)
    ·rw [decide_eq_true h3]
     simp only [Bool.not_true]
     have hn : ¬ (x.2.2.2.1 = true ∨ x.2.2.1 ≠ (i : Int)) := by rw [h4]; simp [h3]
     have found : ∀ (hne : El (Ak s) x) (hnb : both (Ak s) x = false), A0 (Ak s) top i (x :: R) = (Cp x :: R, 0, some (ed x)) := fun hne hnb => by
      rw [A0, if_neg hn, if_neg (by rw [hnb]; simp), if_pos hne]
     by_cases h1 : x.1 ∈ s
     ·rw [decide_eq_true h1]
      simp only []
      by_cases h2 : x.2.1 ∈ s
      ·rw [decide_eq_true h2]
       simp only []
       have hb : both (Ak s) x = true := by unfold both Ak; rw [decide_eq_true h1, decide_eq_true h2]; rfl
       rw [XZ hA, Qs, AN (show i + 1 < 9223372036854775808 by omega)]
       refine next _ (q + 1) (by omega) ?_ (by omega)
       rw [A0, if_neg hn, if_pos hb]
       unfold IX
       rw [h3, h4, show q + 1 - q = 1 by omega]
       rfl
      ·rw [decide_eq_false h2]
       simp only []
       have hb : both (Ak s) x = false := by unfold both Ak; rw [decide_eq_false h2, Bool.and_false]
       have hne : El (Ak s) x := by unfold El Ak; rw [decide_eq_true h1, decide_eq_false h2]; simp
       rw [XZ hA, found hne hb]
       simp only []
       unfold Cp ed
       rfl
     ·rw [decide_eq_false h1]
      simp only []
      by_cases h2 : x.2.1 ∈ s
      ·rw [decide_eq_true h2]
       simp only []
       have hb : both (Ak s) x = false := by unfold both Ak; rw [decide_eq_false h1, Bool.false_and]
       have hne : El (Ak s) x := by unfold El Ak; rw [decide_eq_false h1, decide_eq_true h2]; simp
       rw [XZ hA, found hne hb]
       simp only []
       unfold Cp ed
       rfl
      ·rw [decide_eq_false h2]
       simp only []
       refine next x q (by omega) ?_ (Nat.le_refl _)
       have hb : both (Ak s) x = false := by unfold both Ak; rw [decide_eq_false h1, Bool.false_and]
       have hne : ¬ El (Ak s) x := by unfold El Ak; rw [decide_eq_false h1, decide_eq_false h2]; simp
       rw [A0, if_neg hn, if_neg (by rw [hb]; simp), if_neg hne, Nat.sub_self]
       rfl
    ·rw [decide_eq_false h3]
     simp only [Bool.not_false]
     exact next x q (by omega) (skip (.inr h3)) (Nat.le_refl _)
   ·simp only []
    exact next x q (by omega) (skip (.inl h4)) (Nat.le_refl _)
 have := key O [] 0 many r rfl (by simp) (by simp only [many]; omega) (by omega)
 rw [Aj]
 exact this
end Go.Pev.Pl
end
section
namespace Go.Pev.Pl
open Tok
set_option linter.unusedSimpArgs false
set_option maxRecDepth 100000
noncomputable def Nf (N u v : Nat) (top : Int) : Nat → List Tie → Nat → List Tie × Option Edge × Nat
 | 0, O, r => (O, none, r)
 | i + 1, O, r => match (A0 (Ak (DY N O u v i)) top i (O.map (rT (Ak (DY N O u v i)) top i))).2.2 with
  | some e => ((A0 (Ak (DY N O u v i)) top i (O.map (rT (Ak (DY N O u v i)) top i))).1, some e, r + RO (Ak (DY N O u v i)) i O + (A0 (Ak (DY N O u v i)) top i (O.map (rT (Ak (DY N O u v i)) top i))).2.1)
  | none => Nf N u v top i (A0 (Ak (DY N O u v i)) top i (O.map (rT (Ak (DY N O u v i)) top i))).1 (r + RO (Ak (DY N O u v i)) i O + (A0 (Ak (DY N O u v i)) top i (O.map (rT (Ak (DY N O u v i)) top i))).2.1)
theorem AGE (S : Int → Bool) (top i : Int) : ∀ ts : List Tie, (A0 S top i ts).1.length = ts.length ∧ (A0 S top i ts).2.1 ≤ ts.length := by
 intro ts
 induction ts with
 | nil => exact ⟨rfl, Nat.le_refl _⟩
 | cons t ts ih =>
  rw [A0]
  split
  ·exact ⟨by simp [ih.1], by have := ih.2; simp; omega⟩
  ·split
   ·exact ⟨by simp [ih.1], by have := ih.2; simp; omega⟩
   ·split
    ·exact ⟨by simp, by simp⟩
    ·exact ⟨by simp [ih.1], by have := ih.2; simp; omega⟩
theorem AdI (S : Int → Bool) (top i : Int) : ∀ ts : List Tie, (A0 S top i ts).1.map ed = ts.map ed := by
 intro ts
 induction ts with
 | nil => rfl
 | cons t ts ih =>
  rw [A0]
  split
  ·rw [List.map_cons, List.map_cons, ih]
  ·split
   ·rw [List.map_cons, List.map_cons, ih]; rfl
   ·split
    ·rw [List.map_cons, List.map_cons]; rfl
    ·rw [List.map_cons, List.map_cons, ih]
theorem AhP (S : Int → Bool) (i : Int) (ts : List Tie) : RO S i ts ≤ ts.length := List.countP_le_length
theorem AJp {N : Nat} (hN : N ≤ 64) (u v : Nat) (hu : u < N) (hv : v < N) (top w8 : Int) :
  ∀ (m : Nat) (O : List Tie) (r cnt : Nat), m ≤ 64 → O.length ≤ 400 → r + 1000 * m < 1073741824 → m < cnt →
  AW ER cnt ((0 : Int), false, false, (0 : Int), (0 : Int), (0 : Int), (u : Int), (v : Int), w8, true, (N : Int), O, true, false, (0 : Int), (0 : Int), (r : Int), top, (m : Int) - 1, ()) =
  some (match (Nf N u v top m O r).2.1 with
   | some e => .inl ((N : Int), (Nf N u v top m O r).1, true, true, e.1, e.2.1, ((Nf N u v top m O r).2.2 : Int), (0 : Int), ())
   | none => .inr (.inl ((0 : Int), false, false, (0 : Int), (0 : Int), (0 : Int), (N : Int), (Nf N u v top m O r).1, true, false, (0 : Int), (0 : Int), ((Nf N u v top m O r).2.2 : Int), ()))) := by
 intro m
 induction m with
 | zero =>
  intro O r cnt hm hO hr hc
  obtain ⟨cnt, rfl⟩ : ∃ c, cnt = c + 1 := ⟨cnt - 1, by omega⟩
  rw [AW, ER, An, decide_eq_false (by omega)]
  rfl
 | succ m ih =>
  intro O r cnt hm hO hr hc
  obtain ⟨cnt, rfl⟩ : ∃ c, cnt = c + 1 := ⟨cnt - 1, by omega⟩
  have em : ((m + 1 : Nat) : Int) - 1 = (m : Int) := by omega
  obtain ⟨e, hs⟩ := ASC hN O hO u v hu hv (m : Int)
  have hsl := AYp N O u v (m : Int)
  rw [em, AW, ER, An, decide_eq_true (show (0 : Int) ≤ (m : Int) by omega)]
  simp only [hs]
  have ht := AOt ((0 : Int), false, false, (0 : Int), (0 : Int), (0 : Int), (u : Int), (v : Int), w8, true) true false 0 0 top m (by omega) (DY N O u v m) (by omega) (N : Int) true O hO r (by omega)
  simp only at ht
  rw [Nf]
  generalize hS : DY N O u v (m : Int) = s at *
  have hcl := AhP (Ak s) (m : Int) O
  have hml : (O.map (rT (Ak s) top m)).length ≤ 400 := by rw [List.length_map]; exact hO
  have ho := AJr ((0 : Int), false, false, (0 : Int), (0 : Int), (0 : Int), (u : Int), (v : Int), w8, true) true false 0 0 top m (by omega) s (by omega) (N : Int) true (O.map (rT (Ak s) top m)) hml (r + RO (Ak s) m O) (by omega)
  simp only at ho
  simp only [ht, ho]
  have hpl := AGE (Ak s) top m (O.map (rT (Ak s) top m))
  cases hp : (A0 (Ak s) top m (O.map (rT (Ak s) top m))).2.2 with
  | some e => rfl
  | none =>
   simp only []
   rw [Ag (by omega)]
   exact ih _ _ cnt (by omega) (by omega) (by omega) (by omega)
def Ahf (tree : Bool) (f : Option Edge) (r : Nat) : Bool × Bool × Edge × Int × Unit := (tree, f.isSome, ((f.getD (0, 0, ())).1, ((f.getD (0, 0, ())).2.1, ())), (r : Int), ())
def Ahe : Bool × Bool × Edge × Int × Unit := (false, (false, (((0 : Int), ((0 : Int), ())), ((0 : Int), ()))))
noncomputable def HQ (N : Nat) (ts : List Tie) (p : Nat) (t : Tie) : List Tie × Option Edge × Nat :=
 if t.2.2.2.1 = true then Nf N t.1.toNat t.2.1.toNat (BX N : Int) (t.2.2.1.toNat + 1) (ts.take p ++ ts.drop (p + 1)) 0 else (ts.take p ++ ts.drop (p + 1), none, 0)
theorem AZc {N : Nat} {ts : List Tie} (h : RG2 N ts) (u v : Int) :
  (¬ ((0 ≤ u ∧ u < (N : Int)) ∧ (0 ≤ v ∧ v < (N : Int))) ∧ ABR (((N : Int), (ts, ())), u, v, ()) = some ((N : Int), ts, Ahe, 10, ())) ∨
  (((0 ≤ u ∧ u < (N : Int)) ∧ (0 ≤ v ∧ v < (N : Int))) ∧ ts.any (Fx u v) = false ∧ ABR (((N : Int), (ts, ())), u, v, ()) = some ((N : Int), ts, Ahe, 6, ())) ∨
  (((0 ≤ u ∧ u < (N : Int)) ∧ (0 ≤ v ∧ v < (N : Int))) ∧ ts.any (Fx u v) = true ∧ ∃ t, ts[ts.findIdx (Fx u v)]? = some t ∧
   ABR (((N : Int), (ts, ())), u, v, ()) = some ((N : Int), (HQ N ts (ts.findIdx (Fx u v)) t).1, Ahf t.2.2.2.1 (HQ N ts (ts.findIdx (Fx u v)) t).2.1 (HQ N ts (ts.findIdx (Fx u v)) t).2.2, 0, ())) := by
 have ht := h.ht
 have hN := h.hN
 rw [AO3, Xp]
 simp only [h.r21, Bool.not_true, ACJ]
 by_cases hu : 0 ≤ u ∧ u < (N : Int)
 ·rw [decide_eq_true hu]
  by_cases hv : 0 ≤ v ∧ v < (N : Int)
  ·right
   rw [decide_eq_true hv]
   simp only [Bool.not_true, AU7 h]
   cases ha : ts.any (Fx u v)
   ·left
    refine ⟨⟨hu, hv⟩, rfl, ?_⟩
    simp only [Bool.false_eq_true, if_false, Ah]
    rw [decide_eq_true (by omega)]
    rfl
   ·right
    have hk : ts.findIdx (Fx u v) < ts.length := List.findIdx_lt_length.2 (List.any_eq_true.1 ha)
    have hx : ts[ts.findIdx (Fx u v)]? = some ts[ts.findIdx (Fx u v)] := List.getElem?_eq_getElem hk
    refine ⟨⟨hu, hv⟩, rfl, _, hx, ?_⟩
    have hm : ts[ts.findIdx (Fx u v)] ∈ ts := List.getElem_mem hk
    generalize ts[ts.findIdx (Fx u v)] = t at *
    generalize ts.findIdx (Fx u v) = p at *
    obtain ⟨i1, i2, hlt, l1, l2⟩ := h.tie hm
    obtain ⟨a, ha'⟩ := Int.eq_ofNat_of_zero_le i1.2.2.1
    obtain ⟨b, hb'⟩ := Int.eq_ofNat_of_zero_le i2.2.2.1
    obtain ⟨lv, hlv⟩ := Int.eq_ofNat_of_zero_le l1
    have haN : a < N := by have := i1.2.2.2; omega
    have hbN : b < N := by have := i2.2.2.2; omega
    have hT := DK hN
    have hT64 := AHm hN
    have s1 : CM ts (0 : Int) (p : Int) = some (ts.take p) := Kv (by omega)
    have s2 : CM ts ((p + 1 : Nat) : Int) (ts.length : Int) = some (ts.drop (p + 1)) := EM (by omega)
    have hfit1 : fits (AO ([] : List Tie) + AO (ts.take p)) = true := A2 (by simp only [AL, List.length_nil, List.length_take]; omega)
    have hfit2 : fits (AO (ts.take p) + AO (ts.drop (p + 1))) = true := A2 (by simp only [AL, List.length_take, List.length_drop]; omega)
    have hd0 : Aq ([] : List Tie) (ts.take p) = ts.take p := by simp [Aq]
    simp only [if_true, Ah]
    rw [decide_eq_false (show ¬ (p : Int) < 0 by omega)]
    simp only [Ac hx, s1, hfit1, hd0]
    rw [AN (by omega)]
    simp only [AL] at hfit2
    simp only [AL, s2, hfit2, Md N hN, hT, Bv]
    unfold HQ
    cases h4 : t.2.2.2.1
    ·obtain ⟨m, hmany⟩ : ∃ m, many = m + 1 := ⟨many - 1, by simp only [many]⟩
     have : AT ER many ((0 : Int), false, false, (0 : Int), (0 : Int), (0 : Int), t.1, t.2.1, t.2.2.1, false, (N : Int), ts.take p ++ ts.drop (p + 1), false, false, (0 : Int), (0 : Int), (0 : Int), (BX N : Int), t.2.2.1, ()) =
       some (.inr (.inl ((0 : Int), false, false, (0 : Int), (0 : Int), (0 : Int), (N : Int), ts.take p ++ ts.drop (p + 1), false, false, (0 : Int), (0 : Int), (0 : Int), ()))) := by
      rw [Aj, hmany, AW, ER]
      cases ile (0 : Int) t.2.2.1 <;> rfl
     simp only [this]
     rfl
    ·simp only [if_true]
     have hlen : (ts.take p ++ ts.drop (p + 1)).length ≤ 400 := by rw [List.length_append, List.length_take, List.length_drop]; omega
     have hs := AJp hN a b haN hbN (BX N : Int) t.2.2.1 (lv + 1) (ts.take p ++ ts.drop (p + 1)) 0 many (by omega) hlen (by omega) (by simp only [many]; omega)
     rw [← ha', ← hb', show ((lv + 1 : Nat) : Int) - 1 = t.2.2.1 by omega] at hs
     have e2 : t.1.toNat = a := by omega
     have e3 : t.2.1.toNat = b := by omega
     have e4 : t.2.2.1.toNat + 1 = lv + 1 := by omega
     rw [e2, e3, e4]
     rw [← Aj] at hs
     have hs' : AT ER many ((0 : Int), false, false, (0 : Int), (0 : Int), (0 : Int), t.1, t.2.1, t.2.2.1, true, (N : Int), ts.take p ++ ts.drop (p + 1), true, false, (0 : Int), (0 : Int), (0 : Int), (BX N : Int), t.2.2.1, ()) = _ := hs
     simp only [hs']
     cases (Nf N a b (BX N : Int) (lv + 1) (ts.take p ++ ts.drop (p + 1)) 0).2.1 with
     | some e => rfl
     | none => rfl
  ·left
   rw [decide_eq_false hv]
   exact ⟨fun q => hv q.2, rfl⟩
 ·left
  rw [decide_eq_false hu]
  exact ⟨fun q => hu q.1, rfl⟩
end Go.Pev.Pl
end
section
namespace Go.Pev.Pl
open Tok
set_option linter.unusedSimpArgs false
set_option maxRecDepth 100000
theorem Ac0 {N : Nat} (h1 : 1 ≤ N) (hN : N ≤ 64) {O : List Tie} (ht : O.length ≤ 400) (hE : (O.map ed).Pairwise GK) (hlt : ∀ e ∈ O.map ed, e.1 < e.2.1) (hin : ∀ x ∈ O, InE N (ed x)) (hl : ∀ x ∈ O, 0 ≤ x.2.2.1 ∧ x.2.2.1 ≤ (BX N : Int)) (hfo : Fo N (trk O 0)) : RG2 N O := by
 have ho : oks N O := by
  rw [M3]
  refine ⟨fun t ht => ?_, ?_⟩
  ·have a := hlt (ed t) (List.mem_map.2 ⟨t, ht, rfl⟩)
   obtain ⟨⟨b1, b2⟩, c1, c2⟩ := hin t ht
   have d := hl t ht
   rw [← DK hN] at d
   exact ⟨b1, a, c2, d.1, d.2⟩
  ·rw [List.pairwise_map] at hE
   exact hE
 exact ⟨h1, hN, ht, ho, by rw [Pu ho]; exact hfo⟩
theorem RG2.edP {N : Nat} {ts : List Tie} (h : RG2 N ts) : (ts.map ed).Pairwise GK := by
 rw [List.pairwise_map]
 exact ((M3 N ts).1 h.oks).2
theorem RG2.Ain {N : Nat} {ts : List Tie} (h : RG2 N ts) : ∀ e ∈ ts.map ed, e.1 < e.2.1 := by
 intro e he
 obtain ⟨t, ht, rfl⟩ := List.mem_map.1 he
 exact (h.tie ht).2.2.1
theorem AIr {N : Nat} {O : List Tie} (h : RG2 N O) {u v i : Nat} (hu : u < N) (hv : v < N) (hn : ¬ Con (trk O i) (u : Int) (v : Int)) : ∃ c, MA N ((u : Int), ((v : Int), ())) i O (Ak (DY N O u v i)) c := by
 unfold DY
 rw [(BM _).2 h, if_pos rfl, if_neg (by rw [BH]; exact hn)]
 have key : ∀ c : Nat, c < N → ∀ w : Nat, w < N → (Ak (J0 N (trk O i) (c : Int)) (w : Int) = true ↔ Con (trk O i) (c : Int) (w : Int)) := by
  intro c hc w hw
  unfold Ak
  rw [decide_eq_true_iff, ABY]
  exact ⟨fun q => q.2, fun q => ⟨⟨by omega, by omega⟩, q⟩⟩
 split
 ·rename_i q
  exact ⟨u, hu, .inl rfl, key u hu, by show 2 * _ ≤ csz N (trk O i) (u : Int) + csz N (trk O i) (v : Int); omega⟩
 ·rename_i q
  exact ⟨v, hv, .inr rfl, key v hv, by show 2 * _ ≤ csz N (trk O i) (u : Int) + csz N (trk O i) (v : Int); omega⟩
theorem AcL {N : Nat} (h1 : 1 ≤ N) (hN : N ≤ 64) {u v : Nat} (hu : u < N) (hv : v < N) : ∀ (m : Nat) (O : List Tie) (r : Nat), m ≤ BX N + 1 → O.length ≤ 400 → (O.map ed).Pairwise GK → (∀ e ∈ O.map ed, e.1 < e.2.1) → IK N (BX N : Int) ((u : Int), ((v : Int), ())) (m : Int) O →
  (Nf N u v (BX N : Int) m O r).1.map ed = O.map ed ∧ Snd N (BX N : Int) (Nf N u v (BX N : Int) m O r).1 ∧
  ((Nf N u v (BX N : Int) m O r).2.1 = none → ¬ Con (trk (Nf N u v (BX N : Int) m O r).1 0) (u : Int) (v : Int)) ∧
  ((Nf N u v (BX N : Int) m O r).2.1 ≠ none → Con (trk (Nf N u v (BX N : Int) m O r).1 0) (u : Int) (v : Int)) := by
 intro m
 induction m with
 | zero =>
  intro O r _ _ _ _ hG
  obtain ⟨q1, q2⟩ := hG.end
  exact ⟨rfl, q1, fun _ => q2, fun h => absurd rfl h⟩
 | succ i ih =>
  intro O r hm hO hE hlt hG
  have hG' : IK N (BX N : Int) ((u : Int), ((v : Int), ())) ((i : Int) + 1) O := hG
  have hit : (i : Int) ≤ (BX N : Int) := by omega
  have hR : RG2 N O := Ac0 h1 hN hO hE hlt hG.ins hG.lvl (hG.fo.front (Pw hG.ins 0) (fun e he => by rw [List.mem_singleton] at he; subst he; exact hG.it))
  obtain ⟨c, hL⟩ := AIr hR hu hv (i := i) (hG'.apart i)
  rw [Nf]
  generalize Ak (DY N O u v (i : Int)) = S at *
  have hme : ((O.map (rT S (BX N : Int) i)).map ed) = O.map ed := by
   rw [List.map_map]
   exact List.map_congr_left fun t _ => AAg S _ _ t
  have hpe := AdI S (BX N : Int) i (O.map (rT S (BX N : Int) i))
  have hpl := AGE S (BX N : Int) i (O.map (rT S (BX N : Int) i))
  rw [hme] at hpe
  cases hp : (A0 S (BX N : Int) i (O.map (rT S (BX N : Int) i))).2.2 with
  | none =>
   obtain ⟨q1, q2⟩ := ATN S (BX N : Int) i _ hp
   have hN' := hG'.next hit hL q2
   rw [← q1] at hN'
   simp only []
   have := ih (A0 S (BX N : Int) i (O.map (rT S (BX N : Int) i))).1 (r + RO S i O + (A0 S (BX N : Int) i (O.map (rT S (BX N : Int) i))).2.1) (by omega) (by rw [hpl.1, List.length_map]; exact hO) (by rw [hpe]; exact hE) (by rw [hpe]; exact hlt) hN'
   rw [hpe] at this
   exact this
  | some e =>
   obtain ⟨A, x, B, e1, e2, e3, e4, e5, e6⟩ := ATM S (BX N : Int) i e _ hp
   obtain ⟨q1, q2⟩ := hG'.found hit hL e1 e3 e4 e5
   rw [← e2] at q1 q2
   simp only []
   exact ⟨hpe, q1, fun h => (by cases h), fun _ => q2⟩
theorem Aad {N : Nat} {ts : List Tie} (h : RG2 N ts) (hs : Snd N (BX N : Int) ts) {p : Nat} {t : Tie} (hp : ts[p]? = some t) :
  RG2 N (HQ N ts p t).1 ∧ Snd N (BX N : Int) (HQ N ts p t).1 ∧ (HQ N ts p t).1.map ed = (ts.take p ++ ts.drop (p + 1)).map ed ∧
  (t.2.2.2.1 = true → ((HQ N ts p t).2.1 ≠ none ↔ Con ((ts.take p ++ ts.drop (p + 1)).map ed) t.1 t.2.1)) ∧ (t.2.2.2.1 = false → (HQ N ts p t).2.1 = none ∧ (HQ N ts p t).2.2 = 0) := by
 have hpl : p < ts.length := (List.getElem?_eq_some_iff.1 hp).1
 have hpe : ts[p] = t := (List.getElem?_eq_some_iff.1 hp).2
 have hsp : ts = ts.take p ++ t :: ts.drop (p + 1) := by
  conv => lhs; rw [← List.take_append_drop p ts, List.drop_eq_getElem_cons hpl, hpe]
 have hm : t ∈ ts := hpe ▸ List.getElem_mem hpl
 obtain ⟨i1, i2, hlt, l1, l2⟩ := h.tie hm
 have hT := DK h.hN
 have hsub : ((ts.take p ++ ts.drop (p + 1)).map ed).Sublist (ts.map ed) := by
  conv => rhs; rw [hsp]
  exact (List.Sublist.append_left (List.sublist_cons_self _ _) _).map ed
 have hlen : (ts.take p ++ ts.drop (p + 1)).length ≤ 400 := by
  have := h.ht
  rw [List.length_append, List.length_take, List.length_drop]; omega
 have hE := h.edP.sublist hsub
 have hL : ∀ e ∈ (ts.take p ++ ts.drop (p + 1)).map ed, e.1 < e.2.1 := fun e he => h.Ain e (hsub.subset he)
 have fin : ∀ O' : List Tie, O'.map ed = (ts.take p ++ ts.drop (p + 1)).map ed → Snd N (BX N : Int) O' → RG2 N O' := fun O' he hO => Ac0 h.h1 h.hN (by
   have := congrArg List.length he
   rw [List.length_map, List.length_map] at this
   omega) (by rw [he]; exact hE) (by rw [he]; exact hL) hO.ins hO.lvl hO.fo
 unfold HQ
 cases h4 : t.2.2.2.1
 ·simp only [Bool.false_eq_true, if_false]
  have hO : Snd N (BX N : Int) (ts.take p ++ ts.drop (p + 1)) := by
   rw [hsp] at hs
   exact hs.other h4
  exact ⟨fin _ rfl hO, hO, trivial, fun q => q.elim, fun _ => ⟨trivial, trivial⟩⟩
 ·simp only [if_true]
  obtain ⟨a, ha⟩ := Int.eq_ofNat_of_zero_le i1.2.2.1
  obtain ⟨b, hb⟩ := Int.eq_ofNat_of_zero_le i2.2.2.1
  obtain ⟨lv, hlv⟩ := Int.eq_ofNat_of_zero_le l1
  have haN : a < N := by have := i1.2.2.2; omega
  have hbN : b < N := by have := i2.2.2.2; omega
  have hst : IK N (BX N : Int) ((a : Int), ((b : Int), ())) ((lv + 1 : Nat) : Int) (ts.take p ++ ts.drop (p + 1)) := by
   have hs' := hs
   rw [hsp] at hs'
   have := hs'.Aia h4
   have e1 : ed t = ((a : Int), ((b : Int), ())) := by unfold ed; rw [ha, hb]
   rw [e1, hlv] at this
   exact this
  have e2 : t.1.toNat = a := by omega
  have e3 : t.2.1.toNat = b := by omega
  have e4 : t.2.2.1.toNat + 1 = lv + 1 := by omega
  rw [e2, e3, e4]
  obtain ⟨q1, q2, q3, q4⟩ := AcL h.h1 h.hN haN hbN (lv + 1) (ts.take p ++ ts.drop (p + 1)) 0 (by omega) hlen hE hL hst
  refine ⟨fin _ q1 q2, q2, q1, fun _ => ?_, fun q => by cases q⟩
  rw [← q1, q2.span, ha, hb]
  constructor
  ·exact q4
  ·intro hc hn
   exact q3 hn hc
noncomputable def Q2 (N : Nat) (ts : List Tie) (l : List Edge) : List Edge := (HD N l).filter fun x => decide (x ∈ ts.map ed)
theorem AUr {N : Nat} {ts : List Tie} (h : RG2 N ts) (l : List Edge) (hs : l.length < 1073741824) :
  ACW (((N : Int), (ts, ())), l, ()) = some (if ∀ e ∈ l, In (N : Int) e.1 ∧ In (N : Int) e.2.1 then (Q2 N ts l, 0, ()) else ([], 10, ())) := by
 have ht := h.ht
 have h1 := h.h1
 have hN := h.hN
 rw [AGn, Q3]
 simp only [h.r21, Bool.not_true]
 have e := DC (step := FI) (fun i => (l, (N : Int), ts, (i : Int), ())) l (fun x => !decide (In (N : Int) x.1 ∧ In (N : Int) x.2.1)) (fun _ => .inl (10, ())) (.inr (.inl (l, (N : Int), ts, ()))) (by omega)
  (fun i x hi hx => by
   rw [FI, AL, AM, decide_eq_true hi]
   simp only [Ac hx, ACJ]
   rw [AN (by omega)]
   have d1 : decide (0 ≤ x.1 ∧ x.1 < (N : Int)) = decide (In (N : Int) x.1) := decide_eq_decide.2 ⟨fun q => ⟨by omega, by omega, q.1, q.2⟩, fun q => ⟨q.2.2.1, q.2.2.2⟩⟩
   have d2 : decide (0 ≤ x.2.1 ∧ x.2.1 < (N : Int)) = decide (In (N : Int) x.2.1) := decide_eq_decide.2 ⟨fun q => ⟨by omega, by omega, q.1, q.2⟩, fun q => ⟨q.2.2.1, q.2.2.2⟩⟩
   rw [d1, d2, Bool.decide_and]
   cases decide (In (N : Int) x.1) <;> cases decide (In (N : Int) x.2.1) <;> simp)
  (by rw [FI, AL, AM, decide_eq_false (by omega)])
 have e' : AT FI many (l, (N : Int), ts, (0 : Int), ()) = _ := e
 rw [e']
 by_cases hall : ∀ e ∈ l, In (N : Int) e.1 ∧ In (N : Int) e.2.1
 ·have : (l.any fun x => !decide (In (N : Int) x.1 ∧ In (N : Int) x.2.1)) = false := by
   rw [List.any_eq_false]
   intro x hx
   simp [hall x hx]
  rw [this, if_pos hall]
  simp only [Bool.false_eq_true, if_false, Ls (N : Int) ts h.ht h.r21, Vy N hN l hs]
  have hpl := Jp N hN l
  unfold Q2
  generalize HD N l = p at hpl
  have e2 := B9 (step := FH) (fun i (a : List Edge) => (ts.map ed, p, a, (i : Int), ())) p (fun x a => .inl (if x ∈ ts.map ed then a ++ [x] else a)) (fun a => .inl (a, ())) (fun i a => a.length ≤ i) (by omega)
   (fun i x a hi hx ha => by
    refine ⟨fun m' h' => ?_, fun r h' => (by cases h')⟩
    cases h'
    constructor
    ·rw [FH, AL, AM, decide_eq_true hi]
     obtain ⟨u, v, ⟨⟩⟩ := x
     simp only [Ac hx, Gs hx, T9 (ts.map ed) u v (by rw [List.length_map]; omega), AL]
     have hfit : fits ((a.length : Int) + (([(u, v, ())] : List Edge).length : Int)) = true := A2 (by simp; omega)
     rw [hfit, AN (by omega)]
     by_cases q : ((u, v, ()) : Edge) ∈ ts.map ed
     ·rw [decide_eq_true q, if_pos q]
      rfl
     ·rw [decide_eq_false q, if_neg q]
    ·split
     ·rw [List.length_append]; simp; omega
     ·omega)
   (fun a _ => by rw [FH, AL, AM, decide_eq_false (by omega)]) [] (Nat.le_refl _)
  have e2' : AT FH many (ts.map ed, p, [], (0 : Int), ()) = _ := e2
  simp only [e2']
  rw [BA (fun (x : Edge) (a : List Edge) => if x ∈ ts.map ed then a ++ [x] else a), Gb (fun x : Edge => x ∈ ts.map ed) (fun x => x)]
  simp
 ·have : (l.any fun x => !decide (In (N : Int) x.1 ∧ In (N : Int) x.2.1)) = true := by
   rw [List.any_eq_true]
   refine Classical.byContradiction fun hn => hall fun e he => ?_
   refine Classical.byContradiction fun hne => hn ⟨e, he, by rw [decide_eq_false hne]; rfl⟩
  rw [this, if_neg hall]
  rfl
end Go.Pev.Pl
end
section
namespace Go.Pev.Pl
open Tok
set_option linter.unusedSimpArgs false
set_option maxRecDepth 100000
noncomputable def AO5 (ts : List Tie) (k : Nat) : Bool := ts.any fun t => !t.2.2.2.1 && (decide (t.2.2.1 = (k : Int)) && !Ca (trk ts k) t.1 t.2.1)
theorem AM5 {N : Nat} {ts : List Tie} (h : RG2 N ts) (s : Int) (k : Nat) {o : List Int} (hc : Kd (N : Int) (trk ts k) o) :
  AT Cy many ((N : Int), ts, s, (k : Int), o, (0 : Int), ()) = some (if AO5 ts k then .inl (false, ()) else .inr (.inl ((N : Int), ts, s, (k : Int), ()))) := by
 have ht := h.ht
 have ho : o.length = N := by have := hc.len; omega
 have e := DC (step := Cy) (fun i => ((N : Int), ts, s, (k : Int), o, (i : Int), ())) ts (fun t => !t.2.2.2.1 && (decide (t.2.2.1 = (k : Int)) && !Ca (trk ts k) t.1 t.2.1)) (fun _ => .inl (false, ())) (.inr (.inl ((N : Int), ts, s, (k : Int), ()))) (by omega)
  (fun i x hi hx => by
   obtain ⟨i1, i2, _, l1, l2⟩ := h.tie (List.mem_of_getElem? hx)
   rw [Cy, AL, AM, decide_eq_true hi]
   simp only [Ac hx, AfO ho (show InV N x.1 from ⟨i1.2.2.1, i1.2.2.2⟩), AfO ho (show InV N x.2.1 from ⟨i2.2.2.1, i2.2.2.2⟩)]
   have hd : ∀ w : Int, AS o (AJ w) 0 = cl o w := fun _ => rfl
   rw [AN (by omega), hd, hd, Ai, Ai]
   have : decide (cl o x.1 = cl o x.2.1) = Ca (trk ts k) x.1 x.2.1 := by
    rw [Bool.eq_iff_iff, decide_eq_true_iff, BH]
    exact hc.same _ _ i1 i2
   rw [this]
   generalize Ca (trk ts (k : Int)) x.1 x.2.1 = c
   generalize decide (x.2.2.1 = (k : Int)) = d
   generalize x.2.2.2.1 = f
   cases f <;> cases d <;> cases c <;> rfl)
  (by rw [Cy, AL, AM, decide_eq_false (by omega)])
 have e' : AT Cy many ((N : Int), ts, s, (k : Int), o, (0 : Int), ()) = _ := e
 rw [e']
 rfl
theorem AM6 {N : Nat} {ts : List Tie} (h : RG2 N ts) (k : Nat) :
  AT Cx many ((N : Int), ts, ((N / 2 ^ k : Nat) : Int), (k : Int), (0 : Int), ()) = some (if UY N ts k then .inl (false, ()) else .inr (.inl ((N : Int), ts, ((N / 2 ^ k : Nat) : Int), (k : Int), ()))) := by
 have hN := h.hN
 have e := DC (step := Cx) (fun i => ((N : Int), ts, ((N / 2 ^ k : Nat) : Int), (k : Int), (i : Int), ())) (List.range N) (fun v => decide (max 1 (N / 2 ^ k) < csz N (trk ts k) (v : Int))) (fun _ => .inl (false, ())) (.inr (.inl ((N : Int), ts, ((N / 2 ^ k : Nat) : Int), (k : Int), ()))) (by simp; omega)
  (fun i x hi hx => by
   have := BO hx
   subst this
   rw [List.length_range] at hi
   have hle := RI N (trk ts k) (x : Int)
   have hdl : N / 2 ^ k ≤ N := Nat.div_le_self _ _
   rw [Cx, AM, decide_eq_true hi]
   simp only [Ib h.h1 h.hN ts h.ht h.inE x hi, AL, LS, Qt]
   rw [AN (by omega), Ah]
   have : decide (max (1 : Int) ((N / 2 ^ k : Nat) : Int) < (csz N (trk ts k) (x : Int) : Int)) = decide (max 1 (N / 2 ^ k) < csz N (trk ts k) (x : Int)) := decide_eq_decide.2 (by omega)
   rw [this]
   cases decide (max 1 (N / 2 ^ k) < csz N (trk ts k) (x : Int)) <;> simp)
  (by rw [Cx, List.length_range, AM, decide_eq_false (by omega)])
 have e' : AT Cx many ((N : Int), ts, ((N / 2 ^ k : Nat) : Int), (k : Int), (0 : Int), ()) = _ := e
 rw [e']
 rfl
theorem Agj {N : Nat} {ts : List Tie} (h : RG2 N ts) : ((List.range (BX N + 1)).any fun k => AO5 ts k) = ts.any (ABT ts) := by
 rw [Bool.eq_iff_iff, List.any_eq_true, List.any_eq_true]
 constructor
 ·rintro ⟨k, _, hk⟩
  unfold AO5 at hk
  rw [List.any_eq_true] at hk
  obtain ⟨t, ht, q⟩ := hk
  simp only [Bool.and_eq_true, decide_eq_true_eq] at q
  refine ⟨t, ht, ?_⟩
  unfold ABT
  rw [q.2.1, Bool.and_eq_true]
  exact ⟨q.1, q.2.2⟩
 ·rintro ⟨t, ht, q⟩
  unfold ABT at q
  rw [Bool.and_eq_true] at q
  obtain ⟨_, _, _, l1, l2⟩ := h.tie ht
  obtain ⟨k, hk⟩ := Int.eq_ofNat_of_zero_le l1
  have hT := DK h.hN
  refine ⟨k, by rw [List.mem_range]; omega, ?_⟩
  unfold AO5
  rw [List.any_eq_true]
  refine ⟨t, ht, ?_⟩
  rw [hk] at q
  simp only [Bool.and_eq_true, decide_eq_true_eq]
  exact ⟨q.1, hk, q.2⟩
theorem Vq {N : Nat} {ts : List Tie} (h : RG2 N ts) : Jk (((N : Int), (ts, ())), ()) = some (DZ (Hc ts ∧ PW ts ∧ JQ N ts), ()) := by
 have ht := h.ht
 have h1 := h.h1
 have hN := h.hN
 have hT := AHm h.hN
 have hTe := DK h.hN
 obtain ⟨o1, e1, c1⟩ := B7 (N : Int) (ts.map ed) ⟨by omega, by omega⟩ (by rw [List.length_map]; omega) h.inE
 obtain ⟨o2, e2, c2⟩ := h.AXZ 0
 have l1 : o1.length = N := by have := c1.len; omega
 have l2 : o2.length = N := by have := c2.len; omega
 rw [ZF, Mi]
 simp only [h.r21, Bool.not_true, Ls (N : Int) ts h.ht h.r21, e1, SR (N : Int) ts h.ht, e2]
 have f0 := DC (step := Dr) (fun i => ((N : Int), ts, o1, o2, (i : Int), ())) (List.range N) (fun k => !decide (o1.getD k 0 = o2.getD k 0)) (fun _ => .inl (false, ())) (.inr (.inl ((N : Int), ts, ()))) (by simp; omega)
  (fun i x hi hx => by
   have := BO hx
   subst this
   rw [List.length_range] at hi
   rw [Dr, AM, decide_eq_true hi]
   simp only [Bf 0 (show x < o1.length by omega), Bf 0 (show x < o2.length by omega), D0, Ai]
   rw [AN (by omega)]
   cases decide (o1.getD x 0 = o2.getD x 0) <;> simp)
  (by rw [Dr, List.length_range, AM, decide_eq_false (by omega)])
 have f0' : AT Dr many ((N : Int), ts, o1, o2, (0 : Int), ()) = _ := f0
 have hsame : (!(List.range N).any fun k => !decide (o1.getD k 0 = o2.getD k 0)) = DZ (Hc ts) := by
  refine I4 ?_
  have e0 : (!(List.range N).any fun k => !decide (o1.getD k 0 = o2.getD k 0)) = true ↔ o1 = o2 := by
   rw [Bool.not_eq_true', List.any_eq_false]
   constructor
   ·intro hh
    refine Gc 0 (by omega) fun k hk => ?_
    have := hh k (by rw [List.mem_range]; omega)
    simpa using this
   ·rintro rfl k _
    simp
  rw [e0, AbE h1 hN c1 c2 h.inE (h.inK 0)]
  exact ⟨fun q => q.1, fun q => ⟨q, fun e he => .edge e (Pv ts 0 e he)⟩⟩
 have f1 := DC (step := Dq) (fun i => ((N : Int), ts, ((N / 2 ^ i : Nat) : Int), (i : Int), ())) (List.range (BX N + 1)) (fun k => AO5 ts k || UY N ts k) (fun _ => .inl (false, ())) (.inr (.inl ())) (by simp; omega)
  (fun i x hi hx => by
   have := BO hx
   subst this
   rw [List.length_range] at hi
   obtain ⟨o, g1, g2⟩ := h.AXZ x
   have hdl : N / 2 ^ x ≤ N := Nat.div_le_self _ _
   rw [Dq]
   simp only [Md N h.hN, hTe]
   rw [CY, decide_eq_true (by omega)]
   simp only [SR (N : Int) ts h.ht, g1, AM5 h _ x g2]
   cases AO5 ts x
   ·simp only [Bool.false_eq_true, if_false, AM6 h x, Bool.false_or]
    cases UY N ts x
    ·simp only [Bool.false_eq_true, if_false]
     rw [Ahi (by omega), AN (by omega)]
     simp only []
     rw [Nat.pow_succ, Nat.div_div_eq_div_mul]
    ·rfl
   ·rfl)
  (by
   rw [Dq, List.length_range]
   simp only [Md N h.hN, hTe]
   rw [CY, decide_eq_false (by omega)])
 have hz : ((N / 2 ^ 0 : Nat) : Int) = (N : Int) := by simp
 have f1' : AT Dq many ((N : Int), ts, ((N / 2 ^ 0 : Nat) : Int), (0 : Int), ()) = _ := f1
 rw [hz] at f1'
 have hor : ((List.range (BX N + 1)).any fun k => AO5 ts k || UY N ts k) = (ts.any (ABT ts) || (List.range (BX N + 1)).any (UY N ts)) := by
  rw [← Agj h]
  generalize List.range (BX N + 1) = xs
  induction xs with
  | nil => rfl
  | cons x xs ih => simp only [List.any_cons, ih]; cases AO5 ts x <;> cases UY N ts x <;> simp
 have b1 := AWv ts
 have b2 := AQm hN ts
 rw [hor] at f1'
 simp only [f0']
 have fin : DZ (Hc ts ∧ PW ts ∧ JQ N ts) = (DZ (Hc ts) && (DZ (PW ts) && DZ (JQ N ts))) := by
  symm
  refine I4 ?_
  rw [Bool.and_eq_true, Bool.and_eq_true, BM, BM, BM]
 rw [fin, ← hsame, ← b1, ← b2]
 cases (List.range N).any fun k => !decide (o1.getD k 0 = o2.getD k 0)
 ·simp only [Bool.false_eq_true, if_false, f1']
  cases ts.any (ABT ts) <;> cases (List.range (BX N + 1)).any (UY N ts) <;> rfl
 ·rfl
theorem Aa1 {A B : List Edge} {x : Edge} (h : (A ++ x :: B).Pairwise GK) : A ++ B = (A ++ x :: B).filter fun e => decide (e ≠ x) := by
 have hA : ∀ e ∈ A, e ≠ x := fun e he => by
  rw [List.pairwise_append] at h
  have := h.2.2 e he x (by simp)
  rintro rfl
  unfold GK at this; omega
 have hB : ∀ e ∈ B, e ≠ x := fun e he => by
  rw [List.pairwise_append, List.pairwise_cons] at h
  have := h.2.1.1 e he
  rintro rfl
  unfold GK at this; omega
 rw [List.filter_append, List.filter_cons, if_neg (by simp), List.filter_eq_self.2 (fun e he => decide_eq_true (hA e he)), List.filter_eq_self.2 (fun e he => decide_eq_true (hB e he))]
theorem Aae {N : Nat} {ts : List Tie} {l : List Edge} {x : Edge} (hx : x ∈ Q2 N ts l) : 0 ≤ x.1 ∧ x.1 < x.2.1 ∧ x.2.1 < (N : Int) ∧ x ∈ ts.map ed := by
 unfold Q2 at hx
 rw [List.mem_filter, ABX, decide_eq_true_iff] at hx
 exact ⟨hx.1.1, hx.1.2.1, hx.1.2.2.1, hx.2⟩
theorem AUq (N : Nat) (ts : List Tie) (l : List Edge) : (Q2 N ts l).Pairwise GK := (Vx N l).filter _
theorem Aaf (N : Nat) (hN : N ≤ 64) (ts : List Tie) (l : List Edge) : (Q2 N ts l).length ≤ 4096 := Nat.le_trans (List.length_filter_le _ _) (Jp N hN l)
theorem AVL {N : Nat} {ts : List Tie} (h : RG2 N ts) (hs : Snd N (BX N : Int) ts) (l : List Edge) (hl : l.length < 1073741824) :
  (¬ AfS N l ∧ UK (((N : Int), (ts, ())), l, ()) = some (((N : Int), (ts, ())), [], 10, ())) ∨
  (AfS N l ∧ ∃ O outs, UK (((N : Int), (ts, ())), l, ()) = some (((N : Int), (O, ())), outs, 0, ()) ∧ RG2 N O ∧ Snd N (BX N : Int) O ∧ O.map ed = (ts.map ed).filter (fun e => decide (e ∉ Q2 N ts l)) ∧ outs.length = (Q2 N ts l).length) := by
 have hg := AUr h l hl
 rw [AG2, RH]
 by_cases hall : ∀ e ∈ l, In (N : Int) e.1 ∧ In (N : Int) e.2.1
 ·right
  refine ⟨hall, ?_⟩
  rw [if_pos hall] at hg
  simp only [hg, Bb, Bool.not_true]
  have hgl := Aaf N h.hN ts l
  have hgp := AUq N ts l
  have hgm := fun x => Aae (N := N) (ts := ts) (l := l) (x := x)
  generalize Q2 N ts l = xs at *
  have key : ∀ (m i cnt : Nat) (O : List Tie) (outs : List (Bool × Bool × Edge × Int × Unit)), i + m = xs.length → m < cnt → outs.length = i → RG2 N O → Snd N (BX N : Int) O → O.map ed = (ts.map ed).filter (fun e => decide (e ∉ xs.take i)) →
    ∃ O' outs', AW FL cnt ((N : Int), ts, (0 : Int), xs, outs, (N : Int), O, (i : Int), ()) = some (.inr (.inl ((0 : Int), outs', (N : Int), O', ()))) ∧ RG2 N O' ∧ Snd N (BX N : Int) O' ∧ O'.map ed = (ts.map ed).filter (fun e => decide (e ∉ xs)) ∧ outs'.length = xs.length := by
   intro m
   induction m with
   | zero =>
    intro i cnt O outs hi hc ho hR hS hE
    obtain ⟨cnt, rfl⟩ : ∃ c, cnt = c + 1 := ⟨cnt - 1, by omega⟩
    rw [List.take_of_length_le (by omega)] at hE
    refine ⟨O, outs, ?_, hR, hS, hE, by omega⟩
    rw [AW, FL, AL, AM, decide_eq_false (by omega)]
   | succ m ih =>
    intro i cnt O outs hi hc ho hR hS hE
    obtain ⟨cnt, rfl⟩ : ∃ c, cnt = c + 1 := ⟨cnt - 1, by omega⟩
    have hi' : i < xs.length := by omega
    have hx : xs[i]? = some xs[i] := List.getElem?_eq_getElem hi'
    have hxm := hgm xs[i] (List.getElem_mem hi')
    have hnt : xs[i] ∉ xs.take i := fun hh => by
     obtain ⟨j, hj, e⟩ := List.mem_take_iff_getElem.1 hh
     have := (List.pairwise_iff_getElem.1 hgp) j i (by omega) hi' (by omega)
     rw [e] at this
     unfold GK at this; omega
    have htk : xs.take (i + 1) = xs.take i ++ [xs[i]] := List.take_succ_eq_append_getElem hi'
    rw [AW, FL, AL, AM, decide_eq_true hi']
    simp only [Ac hx, Gs hx]
    generalize xs[i] = x at *
    have hxO : x ∈ O.map ed := by rw [hE, List.mem_filter]; exact ⟨hxm.2.2.2, decide_eq_true hnt⟩
    obtain ⟨t, htO, hte⟩ := List.mem_map.1 hxO
    obtain ⟨f1, k, f2, f3, f4⟩ := Ae7 hR.oks htO
    have ex1 : t.1 = x.1 := by rw [← hte]; rfl
    have ex2 : t.2.1 = x.2.1 := by rw [← hte]; rfl
    rw [ex1, ex2] at f1 f2
    have one := AZc hR x.1 x.2.1
    rcases one with ⟨q, _⟩ | ⟨_, q, _⟩ | ⟨_, _, t', g1, g2⟩
    ·exact absurd ⟨⟨by omega, by omega⟩, by omega, by omega⟩ q
    ·rw [f1] at q; cases q
    ·rw [f2, f4] at g1
     cases g1
     rw [f2] at g2
     obtain ⟨r1, r2, r3, _⟩ := Aad hR hS f4
     have hspl : O = O.take k ++ t :: O.drop (k + 1) := by
      have hpe : O[k] = t := (List.getElem?_eq_some_iff.1 f4).2
      conv => lhs; rw [← List.take_append_drop k O, List.drop_eq_getElem_cons f3, hpe]
     have hE2 : (HQ N O k t).1.map ed = (ts.map ed).filter (fun e => decide (e ∉ xs.take (i + 1))) := by
      rw [r3, List.map_append]
      have hp := hR.edP
      rw [hspl, List.map_append, List.map_cons, hte] at hp
      rw [Aa1 hp]
      have : (O.take k).map ed ++ x :: (O.drop (k + 1)).map ed = O.map ed := by
       conv => rhs; rw [hspl]
       rw [List.map_append, List.map_cons, hte]
      rw [this, hE, List.filter_filter]
      refine List.filter_congr fun e _ => ?_
      rw [htk, Bool.eq_iff_iff]
      simp only [Bool.and_eq_true, decide_eq_true_eq, List.mem_append, List.mem_singleton, not_or]
      exact ⟨fun q => ⟨q.2, q.1⟩, fun q => ⟨q.2, q.1⟩⟩
     have fin := ih (i + 1) cnt (HQ N O k t).1 (outs ++ [Ahf t.2.2.2.1 (HQ N O k t).2.1 (HQ N O k t).2.2]) (by omega) (by omega) (by rw [List.length_append, ho]; rfl) r1 r2 hE2
     simp only [g2, Bb, Bool.not_true]
     rw [A2 (by simp only [AL, List.length_cons, List.length_nil]; omega), AN (by omega)]
     exact fin
  obtain ⟨O, outs, e, r1, r2, r3, r4⟩ := key xs.length 0 many ts [] (by omega) (by simp only [many]; omega) rfl h hs (by
   rw [List.take_zero]
   refine (List.filter_eq_self.2 fun e _ => ?_).symm
   simp)
  have e' : AT FL many ((N : Int), ts, (0 : Int), xs, [], (N : Int), ts, (0 : Int), ()) = _ := (Aj _ _ _).trans e
  refine ⟨O, outs, ?_, r1, r2, r3, r4⟩
  simp only [e']
 ·left
  refine ⟨hall, ?_⟩
  rw [if_neg hall] at hg
  simp only [hg, Ai]
  rfl
end Go.Pev.Pl
end
section
namespace Go.Pev.Pl
open Tok
set_option linter.unusedSimpArgs false
set_option maxRecDepth 100000
theorem AQy {N : Nat} {ts : List Tie} (h : RG2 N ts) (l : List Edge) (hs : l.length < 1073741824) :
  (∃ e, (e = 10 ∨ e = 2) ∧ AHD (((N : Int), (ts, ())), l, ()) = some ((N : Int), ts, 0, e, ())) ∨
  (AfS N l ∧ ts.length + (CA N ts l).length ≤ 400 ∧ AHD (((N : Int), (ts, ())), l, ()) = some ((N : Int), grown N ts l, ((CA N ts l).length : Int), 0, ())) := by
 have h1 := h.h1
 have hN := h.hN
 have ht := h.ht
 have hn := AZk h1 hN ts ht l hs h.r21
 rw [AQz, X5]
 by_cases hall : ¬ ∀ e ∈ l, In (N : Int) e.1 ∧ In (N : Int) e.2.1
 ·rw [if_neg hall] at hn
  left
  simp only [hn, Ai]
  exact ⟨10, .inl rfl, rfl⟩
 have hall := Classical.not_not.1 hall
 rw [if_pos hall] at hn
 have hcl := Aa6 N hN ts l
 have hci := AQX hN ts l
 have hf : ACk (((N : Int), (ts, ())), l, ()) = some (decide ((CA N ts l).length + ts.length ≤ 400), ()) := by
  rw [AGu, Q7]
  simp only [hn, Bb, AL]
  rw [wrap_add (by omega), An]
  congr 2
  exact decide_eq_decide.2 (by omega)
 simp only [hn, Bb, Bool.not_true, hf]
 by_cases hfit : ¬ (CA N ts l).length + ts.length ≤ 400
 ·left
  rw [decide_eq_false hfit]
  exact ⟨2, .inr rfl, rfl⟩
 have hfit := Classical.not_not.1 hfit
 right
 rw [decide_eq_true hfit]
 obtain ⟨rings, hfo, hF⟩ := AKv h1 hN ts ht h.oks h.r21
 have htl := h.Aim
 have hch := ALU h1 hN hF (CA N ts l) (by omega) h.inT hci
 have hlp := AVx (N : Int) ts (CA N ts l) (gfl (trs ts ts.length) (CA N ts l)) (by omega) ht (AKr _ _)
 refine ⟨hall, by omega, ?_⟩
 have hd : Aq ([] : List Tie) ts = ts := by simp [Aq]
 simp only [Bool.not_true, hfo, hch, AL, hd]
 rw [A2 (by simp; omega)]
 simp only [hlp, AL]
 rfl
theorem AaX {N : Nat} {ts : List Tie} (h : RG2 N ts) (hs : Snd N (BX N : Int) ts) (l : List Edge) : Snd N (BX N : Int) (grown N ts l) := by
 have hT := DK h.hN
 have h0 := Fh h.hN
 refine hs.grown (by omega) (AUo N ts l) (AG4 h.hN ts l) (fun x hx => ?_) ?_
 ·unfold AJ0 at hx
  obtain ⟨i, hi, rfl⟩ := List.mem_map.1 hx
  have hi : i < (CA N ts l).length := by simpa using hi
  refine ⟨rfl, ?_⟩
  rw [Ahp, List.getD_eq_getElem?_getD, List.getElem?_eq_getElem hi]
  exact List.getElem_mem hi
 ·have := AGh N ts l
  rw [Pu (AGi h.hN h.oks l), Pu h.oks] at this
  exact this
theorem XA (g : Int × List Tie × Unit) (l l' : List Edge) (h0 : wfD (.prod (.int .i64) (.prod (.slice (.prod (.int .i64) (.prod (.int .i64) (.prod (.int .i64) (.prod .bool .unit))))) .unit)) g) (hl : wfD (.slice (.prod (.int .i64) (.prod (.int .i64) .unit))) l) (hl' : wfD (.slice (.prod (.int .i64) (.prod (.int .i64) .unit))) l') :
  Eo (g, l, l', ()) = some (true, ()) := by
 obtain ⟨n, ts, ⟨⟩⟩ := g
 rw [Np, GU]
 simp only [ALl, Bool.not_true]
 rcases APx n ts with g1 | ⟨g1, g2, g3⟩
 ·simp only [g1]
 simp only [g1, AL]
 by_cases g4 : 12 < l.length
 ·rw [Ah, decide_eq_true (by omega)]
 rw [Ah, decide_eq_false (by omega)]
 simp only []
 by_cases g5 : 12 < l'.length
 ·rw [Ah, decide_eq_true (by omega)]
 rw [Ah, decide_eq_false (by omega)]
 rcases AF5 n ts (by omega) with ⟨_, r⟩ | ⟨N, rfl, h⟩
 ·simp only [ANE n ts r, Bool.not_false]
 by_cases hp : Hc ts ∧ PW ts ∧ JQ N ts
 ·have hs := h.snd hp
  simp only [Fj h, (BM _).2 hp, Bool.not_true]
  rcases AQy h l (by omega) with ⟨e, he, ha⟩ | ⟨hall, hfit, ha⟩
  ·simp only [ha, Ai]
   rcases he with rfl | rfl
   ·rfl
   ·rfl
  ·have hg := h.grown hfit
   have hgs := AaX h hs l
   have hgp := hgs.parts hg
   simp only [ha, Bb, Bool.not_true]
   rcases AVL hg hgs l' (by omega) with ⟨_, hd⟩ | ⟨_, O, outs, hd, hO, hOs, _⟩
   ·simp only [hd, Fj hg, (BM _).2 hgp, Vq hg, Ai]
    rfl
   ·simp only [hd, Fj hg, (BM _).2 hgp, Vq hg, Bb, Fj hO, (BM _).2 (hOs.parts hO)]
 ·have : DZ (Hc ts ∧ PW ts ∧ JQ N ts) = false := by rw [← Bool.not_eq_true, BM]; exact hp
  simp only [Fj h, this, Bool.not_false]
end Go.Pev.Pl
end
section
namespace Go.Pev
open Go.Proofs
set_option maxRecDepth 100000
noncomputable section
abbrev AB9 : Hints := { loop := fun n => match n with | 0 => Aa 0 26 AGa AGZ ED | _ => fun _ _ _ => none, fp := fun n => match n with | 6 => [[], [], [], [], [], [], [], [], []] | _ => [] }
theorem AKR : ∀ v, ED v = roundOf Tryz.prog Env.none AB9 1 0 26 (AB Tryz.f48 0) AGa AGZ v := by
 rintro ⟨a0, a1, a2, ⟨⟩⟩
 kernel_rfl
theorem AaH : AD (AB Tryz.f48 0) 1 = [] := by kernel_rfl
theorem AaI : AZ Tryz.prog 0 (.loop (AB Tryz.f48 0)) (AB9.loop 0) := AU Env.AJy (AKR) (AA AaH trivial)
theorem AUR : ∀ v, Qo v = AP Tryz.prog Env.none AB9 Tryz.f48 AB8 AB7 AB6 v := by
 rintro ⟨a0, a1, ⟨⟩⟩
 kernel_rfl
theorem AeF : AD (AR Tryz.f48) 0 = [(0, AB Tryz.f48 0)] := by kernel_rfl
theorem APX : AQ Tryz.prog 48 (AF 2 AB8 AB7 AB6 ACA) := AI Env.AJy Tryz.func48 (by kernel_rfl) (by kernel_rfl) rfl (fun v => (AGb v).trans (AUR v)) (AA AeF ⟨AaI, trivial⟩)
def ADx : Env := Env.none.ext 48 true true (AF 2 AB8 AB7 AB6 ACA)
theorem W3 : AX Tryz.prog ADx := Env.AY Env.AJy APX (fun _ => AG rfl rfl) (fun _ => AH rfl rfl)
abbrev Abg : Hints := {  }
theorem ARF : ∀ v, Ps v = AP Tryz.prog ADx Abg Tryz.f159 YR YQ YP v := by
 rintro ⟨a0, ⟨⟩⟩
 kernel_rfl
theorem Abf : AD (AR Tryz.f159) 0 = [] := by kernel_rfl
theorem AMX : AQ Tryz.prog 159 (AF 1 YR YQ YP Ks) := AI W3 Tryz.func159 (by kernel_rfl) (by kernel_rfl) rfl (fun v => (AFL v).trans (ARF v)) (AA Abf trivial)
def ADa : Env := ADx.ext 159 true true (AF 1 YR YQ YP Ks)
theorem Wo : AX Tryz.prog ADa := Env.AY W3 AMX (fun _ => AG rfl rfl) (fun _ => AH rfl rfl)
abbrev AiY : Hints := {  }
theorem Afu : ∀ v, AWH v = AP Tryz.prog ADa AiY Tryz.f156 Ab2 Ab1 Ab0 v := by
 rintro ⟨a0, a1, ⟨⟩⟩
 kernel_rfl
theorem AiX : AD (AR Tryz.f156) 0 = [] := by kernel_rfl
theorem Abz : AQ Tryz.prog 156 (AF 2 Ab2 Ab1 Ab0 tin) := AI Wo Tryz.func156 (by kernel_rfl) (by kernel_rfl) rfl (fun v => (Ab3 v).trans (Afu v)) (AA AiX trivial)
def Aff : Env := ADa.ext 156 true true (AF 2 Ab2 Ab1 Ab0 tin)
theorem AQ6 : AX Tryz.prog Aff := Env.AY Wo Abz (fun _ => AG rfl rfl) (fun _ => AH rfl rfl)
abbrev Ahr : Hints := {  }
theorem Ab7 : ∀ v, AH2 v = AP Tryz.prog Aff Ahr Tryz.f187 ARV ARU ART v := by
 rintro ⟨a0, a1, a2, ⟨⟩⟩
 kernel_rfl
theorem Ahq : AD (AR Tryz.f187) 0 = [] := by kernel_rfl
theorem AYG : AQ Tryz.prog 187 (AF 3 ARV ARU ART AYH) := AI AQ6 Tryz.func187 (by kernel_rfl) (by kernel_rfl) rfl (fun v => (AWI v).trans (Ab7 v)) (AA Ahq trivial)
def AV1 : Env := Aff.ext 187 true true (AF 3 ARV ARU ART AYH)
theorem AHG : AX Tryz.prog AV1 := Env.AY AQ6 AYG (fun _ => AG rfl rfl) (fun _ => AH rfl rfl)
abbrev Abe : Hints := { fp := fun n => match n with | 5 => [[], [], [], [], [], [], [], [], []] | _ => [] }
theorem ARE : ∀ v, Pr v = AP Tryz.prog AV1 Abe Tryz.f197 YN YM YL v := by
 rintro ⟨a0, a1, ⟨⟩⟩
 kernel_rfl
theorem Abd : AD (AR Tryz.f197) 0 = [] := by kernel_rfl
theorem AMW : AQ Tryz.prog 197 (AF 2 YN YM YL YO) := AI AHG Tryz.func197 (by kernel_rfl) (by kernel_rfl) rfl (fun v => (AFK v).trans (ARE v)) (AA Abd trivial)
def Re : Env := AV1.ext 197 true true (AF 2 YN YM YL YO)
theorem MF : AX Tryz.prog Re := Env.AY AHG AMW (fun _ => AG rfl rfl) (fun _ => AH rfl rfl)
abbrev AHx : Hints := { loop := fun n => match n with | 0 => Aa 0 25 AMm AMl G6 | _ => fun _ _ _ => none }
theorem AMk : ∀ v, G6 v = roundOf Tryz.prog Re AHx 1 0 25 (AB Tryz.f129 0) AMm AMl v := by
 rintro ⟨a0, a1, a2, a3, a4, ⟨⟩⟩
 kernel_rfl
theorem Abx : AD (AB Tryz.f129 0) 1 = [] := by kernel_rfl
theorem Aby : AZ Tryz.prog 0 (.loop (AB Tryz.f129 0)) (AHx.loop 0) := AU MF (AMk) (AA Abx trivial)
theorem AYD : ∀ v, Xb v = AP Tryz.prog Re AHx Tryz.f129 AHw AHv AHu v := by
 rintro ⟨a0, ⟨⟩⟩
 kernel_rfl
theorem Afr : AD (AR Tryz.f129) 0 = [(0, AB Tryz.f129 0)] := by kernel_rfl
theorem ARO : AQ Tryz.prog 129 (AF 1 AHw AHv AHu AMo) := AI MF Tryz.func129 (by kernel_rfl) (by kernel_rfl) rfl (fun v => (AMn v).trans (AYD v)) (AA Afr ⟨Aby, trivial⟩)
def X6 : Env := Re.ext 129 true true (AF 1 AHw AHv AHu AMo)
theorem PX : AX Tryz.prog X6 := Env.AY MF ARO (fun _ => AG rfl rfl) (fun _ => AH rfl rfl)
abbrev ACI : Hints := { loop := fun n => match n with | 0 => Aa 0 19 AGd AGc E6 | _ => fun _ _ _ => none }
theorem AKS : ∀ v, E6 v = roundOf Tryz.prog X6 ACI 1 0 19 (AB Tryz.f146 0) AGd AGc v := by
 rintro ⟨a0, a1, a2, a3, ⟨⟩⟩
 kernel_rfl
theorem AaL : AD (AB Tryz.f146 0) 1 = [] := by kernel_rfl
theorem AaM : AZ Tryz.prog 0 (.loop (AB Tryz.f146 0)) (ACI.loop 0) := AU PX (AKS) (AA AaL trivial)
theorem AUc : ∀ v, Qq v = AP Tryz.prog X6 ACI Tryz.f146 ACH ACG ACF v := by
 rintro ⟨a0, a1, ⟨⟩⟩
 kernel_rfl
theorem AeP : AD (AR Tryz.f146) 0 = [(0, AB Tryz.f146 0)] := by kernel_rfl
theorem APY : AQ Tryz.prog 146 (AF 2 ACH ACG ACF Oy) := AI PX Tryz.func146 (by kernel_rfl) (by kernel_rfl) rfl (fun v => (AGe v).trans (AUc v)) (AA AeP ⟨AaM, trivial⟩)
def ADy : Env := X6.ext 146 true true (AF 2 ACH ACG ACF Oy)
theorem W4 : AX Tryz.prog ADy := Env.AY PX APY (fun _ => AG rfl rfl) (fun _ => AH rfl rfl)
abbrev AQS : Hints := {  }
theorem AE4 : ∀ v, IF v = AP Tryz.prog ADy AQS Tryz.f113 Lw Lv Lu v := by
 rintro ⟨a0, a1, ⟨⟩⟩
 kernel_rfl
theorem AQR : AD (AR Tryz.f113) 0 = [] := by kernel_rfl
theorem AC4 : AQ Tryz.prog 113 (AF 2 Lw Lv Lu FM) := AI W4 Tryz.func113 (by kernel_rfl) (by kernel_rfl) rfl (fun v => (RJ v).trans (AE4 v)) (AA AQR trivial)
def IS : Env := ADy.ext 113 true true (AF 2 Lw Lv Lu FM)
theorem Hk : AX Tryz.prog IS := Env.AY W4 AC4 (fun _ => AG rfl rfl) (fun _ => AH rfl rfl)
abbrev ATv : Hints := { loop := fun n => match n with | 0 => Aa 0 25 AW0 AWz Jz | _ => fun _ _ _ => none }
theorem ATr : ∀ v, Jz v = roundOf Tryz.prog IS ATv 1 0 25 (AB Tryz.f177 0) AW0 AWz v := by
 rintro ⟨a0, a1, a2, ⟨⟩⟩
 kernel_rfl
theorem Agm : AD (AB Tryz.f177 0) 1 = [] := by kernel_rfl
theorem Agn : AZ Tryz.prog 0 (.loop (AB Tryz.f177 0)) (ATv.loop 0) := AU Hk (ATr) (AA Agm trivial)
theorem Adz : ∀ v, AJ6 v = AP Tryz.prog IS ATv Tryz.f177 ATu ATt ATs v := by
 rintro ⟨a0, ⟨⟩⟩
 kernel_rfl
theorem AiA : AD (AR Tryz.f177) 0 = [(0, AB Tryz.f177 0)] := by kernel_rfl
theorem AZp : AQ Tryz.prog 177 (AF 1 ATu ATt ATs AZq) := AI Hk Tryz.func177 (by kernel_rfl) (by kernel_rfl) rfl (fun v => (AW1 v).trans (Adz v)) (AA AiA ⟨Agn, trivial⟩)
def AV7 : Env := IS.ext 177 true true (AF 1 ATu ATt ATs AZq)
theorem AHM : AX Tryz.prog AV7 := Env.AY Hk AZp (fun _ => AG rfl rfl) (fun _ => AH rfl rfl)
abbrev AhB : Hints := {  }
theorem Aaa : ∀ v, Xx v = AP Tryz.prog AV7 AhB Tryz.f201 AKm AKl AKk v := by
 rintro ⟨a0, ⟨⟩⟩
 kernel_rfl
theorem AhA : AD (AR Tryz.f201) 0 = [] := by kernel_rfl
theorem AUp : AQ Tryz.prog 201 (AF 2 AKm AKl AKk APw) := AI AHM Tryz.func201 (by kernel_rfl) (by kernel_rfl) rfl (fun v => (APv v).trans (Aaa v)) (AA AhA trivial)
def R3 : Env := AV7.ext 201 false true (AF 2 AKm AKl AKk APw)
theorem KZ : AX Tryz.prog R3 := Env.AY AHM AUp ((by simp)) (fun _ => AH rfl rfl)
abbrev JN : Hints := { loop := fun n => match n with | 0 => Aa 0 36 ADB AC9 D2 | 1 => Aa 0 36 ADA AC8 D1 | _ => fun _ _ _ => none }
theorem AE6 : ∀ v, D1 v = roundOf Tryz.prog R3 JN 2 0 36 (AB Tryz.f186 1) ADA AC8 v := by
 rintro ⟨a0, a1, a2, a3, ⟨⟩⟩
 kernel_rfl
theorem AVT : AD (AB Tryz.f186 1) 2 = [] := by kernel_rfl
theorem AVV : AZ Tryz.prog 0 (.loop (AB Tryz.f186 1)) (JN.loop 1) := AU KZ (AE6) (AA AVT trivial)
theorem AE7 : ∀ v, D2 v = roundOf Tryz.prog R3 JN 1 0 36 (AB Tryz.f186 0) ADB AC9 v := by
 rintro ⟨a0, a1, a2, a3, a4, ⟨⟩⟩
 kernel_rfl
theorem AVU : AD (AB Tryz.f186 0) 1 = [] := by kernel_rfl
theorem AVW : AZ Tryz.prog 0 (.loop (AB Tryz.f186 0)) (JN.loop 0) := AU KZ (AE7) (AA AVU trivial)
theorem AQV : ∀ v, NH v = AP Tryz.prog R3 JN Tryz.f186 UR UQ UP v := by
 rintro ⟨a0, ⟨⟩⟩
 kernel_rfl
theorem Aa5 : AD (AR Tryz.f186) 0 = [(0, AB Tryz.f186 0), (1, AB Tryz.f186 1)] := by kernel_rfl
theorem ALE : AQ Tryz.prog 186 (AF 1 UR UQ UP IG) := AI KZ Tryz.func186 (by kernel_rfl) (by kernel_rfl) rfl (fun v => (ADC v).trans (AQV v)) (AA Aa5 ⟨AVW, AVV, trivial⟩)
def VZ : Env := R3.ext 186 true true (AF 1 UR UQ UP IG)
theorem SA : AX Tryz.prog VZ := Env.AY KZ ALE (fun _ => AG rfl rfl) (fun _ => AH rfl rfl)
theorem AY3 : Tryz.f195.body.isSome = true := by kernel_rfl
theorem AY2 : (Tryz.f195.name == "runtime.NumGoroutine") = false := by kernel_rfl
theorem AY1 : loops (AR Tryz.f195) = 0 := by kernel_rfl
def IN : Env := VZ.ext 195 false false (C8 Tryz.prog VZ {} Tryz.f195)
theorem Hg : AX Tryz.prog IN := Env.AY SA (DA SA Tryz.func195 AY3 AY2 AY1) (by simp) (by simp)
end
end Go.Pev
end
section
namespace Go.Pev
open Go.Proofs
set_option maxRecDepth 100000
noncomputable section
abbrev HN : Hints := { loop := fun n => match n with | 0 => Aa 0 19 Kh Kg Bk | _ => fun _ _ _ => none }
theorem O2 : ∀ v, Bk v = roundOf Tryz.prog IN HN 1 0 19 (AB Tryz.f174 0) Kh Kg v := by
 rintro ⟨a0, a1, a2, ⟨⟩⟩
 kernel_rfl
theorem XL : AD (AB Tryz.f174 0) 1 = [] := by kernel_rfl
theorem XM : AZ Tryz.prog 0 (.loop (AB Tryz.f174 0)) (HN.loop 0) := AU Hg (O2) (AA XL trivial)
theorem T6 : ∀ v, Ea v = AP Tryz.prog IN HN Tryz.f174 HM HL HK v := by
 rintro ⟨a0, ⟨⟩⟩
 kernel_rfl
theorem ACQ : AD (AR Tryz.f174) 0 = [(0, AB Tryz.f174 0)] := by kernel_rfl
theorem Qz : AQ Tryz.prog 174 (AF 2 HM HL HK GZ) := AI Hg Tryz.func174 (by kernel_rfl) (by kernel_rfl) rfl (fun v => (Ki v).trans (T6 v)) (AA ACQ ⟨XM, trivial⟩)
def Hi : Env := IN.DD 174 1 195 (AF 2 HM HL HK GZ)
theorem IQ : AX Tryz.prog Hi := Env.BD Hg Qz (AH rfl rfl)
abbrev XP : Hints := {  }
theorem RN : ∀ v, Dk v = AP Tryz.prog Hi XP Tryz.f154 GH GG GF v := by
 rintro ⟨a0, ⟨⟩⟩
 kernel_rfl
theorem XO : AD (AR Tryz.f154) 0 = [] := by kernel_rfl
theorem PJ : AQ Tryz.prog 154 (AF 2 GH GG GF Df) := AI IQ Tryz.func154 (by kernel_rfl) (by kernel_rfl) rfl (fun v => (JM v).trans (RN v)) (AA XO trivial)
def Dl : Env := Hi.DD 154 1 195 (AF 2 GH GG GF Df)
theorem D7 : AX Tryz.prog Dl := Env.BD IQ PJ (AH rfl rfl)
abbrev ATg : Hints := { loop := fun n => match n with | 0 => Aa 0 23 AWq AWp Jv | _ => fun _ _ _ => none }
theorem ATc : ∀ v, Jv v = roundOf Tryz.prog Dl ATg 1 0 23 (AB Tryz.f196 0) AWq AWp v := by
 rintro ⟨a0, a1, a2, a3, a4, ⟨⟩⟩
 kernel_rfl
theorem Agh : AD (AB Tryz.f196 0) 1 = [] := by kernel_rfl
theorem Agi : AZ Tryz.prog 0 (.loop (AB Tryz.f196 0)) (ATg.loop 0) := AU D7 (ATc) (AA Agh trivial)
theorem Adp : ∀ v, AJu v = AP Tryz.prog Dl ATg Tryz.f196 ATf ATe ATd v := by
 rintro ⟨a0, ⟨⟩⟩
 kernel_rfl
theorem Ah4 : AD (AR Tryz.f196) 0 = [(0, AB Tryz.f196 0)] := by kernel_rfl
theorem AZe : AQ Tryz.prog 196 (AF 1 ATf ATe ATd once) := AI D7 Tryz.func196 (by kernel_rfl) (by kernel_rfl) rfl (fun v => (AWr v).trans (Adp v)) (AA Ah4 ⟨Agi, trivial⟩)
def AV4 : Env := Dl.ext 196 true true (AF 1 ATf ATe ATd once)
theorem AHJ : AX Tryz.prog AV4 := Env.AY D7 AZe (fun _ => AG rfl rfl) (fun _ => AH rfl rfl)
abbrev Acv : Hints := {  }
theorem ASP : ∀ v, QN v = AP Tryz.prog AV4 Acv Tryz.f176 AAJ AAI AAH v := by
 rintro ⟨a0, ⟨⟩⟩
 kernel_rfl
theorem Acu : AD (AR Tryz.f176) 0 = [] := by kernel_rfl
theorem ANk : AQ Tryz.prog 176 (AF 1 AAJ AAI AAH OZ) := AI AHJ Tryz.func176 (by kernel_rfl) (by kernel_rfl) rfl (fun v => (AF3 v).trans (ASP v)) (AA Acu trivial)
def ADn : Env := AV4.ext 176 true true (AF 1 AAJ AAI AAH OZ)
theorem Wy : AX Tryz.prog ADn := Env.AY AHJ ANk (fun _ => AG rfl rfl) (fun _ => AH rfl rfl)
abbrev Abc : Hints := { fp := fun n => match n with | 1 => [[], [], [], [], [], [], [], [0], []] | _ => [] }
theorem ARC : ∀ v, Pq v = AP Tryz.prog ADn Abc Tryz.f200 YK YJ YI v := by
 rintro ⟨a0, a1, ⟨⟩⟩
 kernel_rfl
theorem Abb : AD (AR Tryz.f200) 0 = [] := by kernel_rfl
theorem AMV : AQ Tryz.prog 200 (AF 2 YK YJ YI SM) := AI Wy Tryz.func200 (by kernel_rfl) (by kernel_rfl) rfl (fun v => (AFJ v).trans (ARC v)) (AA Abb trivial)
def Rd : Env := ADn.ext 200 true true (AF 2 YK YJ YI SM)
theorem ME : AX Tryz.prog Rd := Env.AY Wy AMV (fun _ => AG rfl rfl) (fun _ => AH rfl rfl)
abbrev AAv : Hints := { loop := fun n => match n with | 0 => Aa 0 29 AGC AGB EB | _ => fun _ _ _ => none }
theorem AJV : ∀ v, EB v = roundOf Tryz.prog Rd AAv 1 0 29 (AB Tryz.f199 0) AGC AGB v := by
 rintro ⟨a0, a1, a2, a3, a4, ⟨⟩⟩
 kernel_rfl
theorem AZJ : AD (AB Tryz.f199 0) 1 = [] := by kernel_rfl
theorem AZK : AZ Tryz.prog 0 (.loop (AB Tryz.f199 0)) (AAv.loop 0) := AU ME (AJV) (AA AZJ trivial)
theorem AS8 : ∀ v, QT v = AP Tryz.prog Rd AAv Tryz.f199 AAu AAt AAs v := by
 rintro ⟨a0, a1, ⟨⟩⟩
 kernel_rfl
theorem AdD : AD (AR Tryz.f199) 0 = [(0, AB Tryz.f199 0)] := by kernel_rfl
theorem AN9 : AQ Tryz.prog 199 (AF 2 AAu AAt AAs AJW) := AI ME Tryz.func199 (by kernel_rfl) (by kernel_rfl) rfl (fun v => (AGD v).trans (AS8 v)) (AA AdD ⟨AZK, trivial⟩)
def ADr : Env := Rd.ext 199 true true (AF 2 AAu AAt AAs AJW)
theorem W0 : AX Tryz.prog ADr := Env.AY ME AN9 (fun _ => AG rfl rfl) (fun _ => AH rfl rfl)
abbrev AgO : Hints := {  }
theorem AY7 : ∀ v, Xi v = AP Tryz.prog ADr AgO Tryz.f185 AJC AJB AJA v := by
 rintro ⟨a0, a1, ⟨⟩⟩
 kernel_rfl
theorem AgN : AD (AR Tryz.f185) 0 = [] := by kernel_rfl
theorem ASj : AQ Tryz.prog 185 (AF 2 AJC AJB AJA AF7) := AI W0 Tryz.func185 (by kernel_rfl) (by kernel_rfl) rfl (fun v => (ANu v).trans (AY7 v)) (AA AgN trivial)
def AL1 : Env := ADr.ext 185 true true (AF 2 AJC AJB AJA AF7)
theorem ADp : AX Tryz.prog AL1 := Env.AY W0 ASj (fun _ => AG rfl rfl) (fun _ => AH rfl rfl)
abbrev Acx : Hints := {  }
theorem ASR : ∀ v, QO v = AP Tryz.prog AL1 Acx Tryz.f202 AAM AAL AAK v := by
 rintro ⟨a0, ⟨⟩⟩
 kernel_rfl
theorem Acw : AD (AR Tryz.f202) 0 = [] := by kernel_rfl
theorem ANl : AQ Tryz.prog 202 (AF 1 AAM AAL AAK AAN) := AI ADp Tryz.func202 (by kernel_rfl) (by kernel_rfl) rfl (fun v => (AF4 v).trans (ASR v)) (AA Acw trivial)
def ADo : Env := AL1.ext 202 true true (AF 1 AAM AAL AAK AAN)
theorem Wz : AX Tryz.prog ADo := Env.AY ADp ANl (fun _ => AG rfl rfl) (fun _ => AH rfl rfl)
theorem AX8 : Tryz.f180.body.isSome = true := by kernel_rfl
theorem AX7 : (Tryz.f180.name == "runtime.NumGoroutine") = false := by kernel_rfl
theorem AX6 : loops (AR Tryz.f180) = 0 := by kernel_rfl
def IM : Env := ADo.ext 180 false false (C8 Tryz.prog ADo {} Tryz.f180)
theorem Hf : AX Tryz.prog IM := Env.AY Wz (DA Wz Tryz.func180 AX8 AX7 AX6) (by simp) (by simp)
abbrev FA : Hints := { loop := fun n => match n with | 0 => Aa 1 19 H4 H3 BZ | _ => fun _ _ _ => none }
theorem Lf : ∀ v, BZ v = roundOf Tryz.prog IM FA 1 1 19 (AB Tryz.f179 0) H4 H3 v := by
 rintro ⟨a0, a1, a2, a3, ⟨⟩⟩
 kernel_rfl
theorem Qv : AD (AB Tryz.f179 0) 1 = [] := by kernel_rfl
theorem Qw : AZ Tryz.prog 1 (.loop (AB Tryz.f179 0)) (FA.loop 0) := AU Hf (Lf) (AA Qv trivial)
theorem O0 : ∀ v, DS v = AP Tryz.prog IM FA Tryz.f179 E9 E8 E7 v := by
 rintro ⟨a0, a1, ⟨⟩⟩
 kernel_rfl
theorem T4 : AD (AR Tryz.f179) 0 = [(0, AB Tryz.f179 0)] := by kernel_rfl
theorem Ni : AQ Tryz.prog 179 (AF 2 E9 E8 E7 EY) := AI Hf Tryz.func179 (by kernel_rfl) (by kernel_rfl) rfl (fun v => (H5 v).trans (O0 v)) (AA T4 ⟨Qw, trivial⟩)
def FW : Env := IM.DD 179 1 180 (AF 2 E9 E8 E7 EY)
theorem GP : AX Tryz.prog FW := Env.BD Hf Ni (AH rfl rfl)
abbrev Abn : Hints := {  }
theorem ARM : ∀ v, Pz v = AP Tryz.prog FW Abn Tryz.f157 Yh Yg Yf v := by
 rintro ⟨a0, a1, ⟨⟩⟩
 kernel_rfl
theorem Abm : AD (AR Tryz.f157) 0 = [] := by kernel_rfl
theorem AMe : AQ Tryz.prog 157 (AF 2 Yh Yg Yf OB) := AI GP Tryz.func157 (by kernel_rfl) (by kernel_rfl) rfl (fun v => (AFa v).trans (ARM v)) (AA Abm trivial)
def ADc : Env := FW.ext 157 true true (AF 2 Yh Yg Yf OB)
theorem Wq : AX Tryz.prog ADc := Env.AY GP AMe (fun _ => AG rfl rfl) (fun _ => AH rfl rfl)
theorem Ahb : Tryz.f198.body.isSome = true := by kernel_rfl
theorem Aha : (Tryz.f198.name == "runtime.NumGoroutine") = false := by kernel_rfl
theorem AhZ : loops (AR Tryz.f198) = 0 := by kernel_rfl
def Nc : Env := ADc.ext 198 false false (C8 Tryz.prog ADc {} Tryz.f198)
theorem Kc : AX Tryz.prog Nc := Env.AY Wq (DA Wq Tryz.func198 Ahb Aha AhZ) (by simp) (by simp)
end
end Go.Pev
end
section
namespace Go.Pev
open Go.Proofs
set_option maxRecDepth 100000
noncomputable section
abbrev AUx : Hints := { loop := fun n => match n with | 0 => Aa 0 107 AXN AXM H9 | _ => fun _ _ _ => none, fp := fun n => match n with | 8 => [[], [], [], [], [], [], [], [], [1000003], [], [], [], [], [], [], [], [], [0], [0], [0], [], [0], [0], [0], [2, 26], [], [2, 26], [2, 26], [], [], [], [], []] | 13 => [[], [0], [0], [0], [2], [], [], [], [0], [0], [0], [6], [], [0], [0], [0], [4], [], [], []] | 3 => [[], [], [], [], [], [], [], [], [11], [], [], [], [8, 10, 12], []] | _ => [] }
theorem AUt : ∀ v, H9 v = roundOf Tryz.prog Nc AUx 1 0 107 (AB Tryz.f178 0) AXN AXM v := by
 rintro ⟨a0, a1, a2, a3, a4, a5, a6, ⟨⟩⟩
 kernel_rfl
theorem AhC : AD (AB Tryz.f178 0) 1 = [] := by kernel_rfl
theorem AhD : AZ Tryz.prog 0 (.loop (AB Tryz.f178 0)) (AUx.loop 0) := AU Kc (AUt) (AA AhC trivial)
theorem Aem : ∀ v, AKq v = AP Tryz.prog Nc AUx Tryz.f178 AUw AUv AUu v := by
 rintro ⟨a0, a1, ⟨⟩⟩
 kernel_rfl
theorem AiL : AD (AR Tryz.f178) 0 = [(0, AB Tryz.f178 0)] := by kernel_rfl
theorem Aam : AQ Tryz.prog 178 (AF 2 AUw AUv AUu Aeo) := AI Kc Tryz.func178 (by kernel_rfl) (by kernel_rfl) rfl (fun v => (AXO v).trans (Aem v)) (AA AiL ⟨AhD, trivial⟩)
def VW : Env := Nc.ext 178 true true (AF 2 AUw AUv AUu Aeo)
theorem JY : AX Tryz.prog VW := Env.AY Kc Aam (fun _ => AG rfl rfl) (fun _ => AH rfl rfl)
abbrev G2 : Hints := { loop := fun n => match n with | 0 => Aa 0 87 AFR AFO DJ | 1 => Aa 0 87 AFQ AFN DI | 2 => Aa 0 87 AFP AFM D9 | _ => fun _ _ _ => none, fp := fun n => match n with | 8 => [[], [], [], [], [], [], [], [], [], [], [], [], [], [], [], [], [], [], [], [], [], [], [], [], [0], [0], [], [], [], []] | _ => [] }
theorem AHd : ∀ v, D9 v = roundOf Tryz.prog VW G2 3 0 87 (AB Tryz.f153 2) AFP AFM v := by
 rintro ⟨a0, a1, a2, ⟨⟩⟩
 kernel_rfl
theorem AXt : AD (AB Tryz.f153 2) 3 = [] := by kernel_rfl
theorem AXw : AZ Tryz.prog 0 (.loop (AB Tryz.f153 2)) (G2.loop 2) := AU JY (AHd) (AA AXt trivial)
theorem AHe : ∀ v, DI v = roundOf Tryz.prog VW G2 2 0 87 (AB Tryz.f153 1) AFQ AFN v := by
 rintro ⟨a0, a1, a2, a3, a4, a5, a6, a7, a8, a9, a10, a11, a12, a13, a14, a15, a16, a17, a18, a19, a20, a21, a22, a23, a24, a25, ⟨⟩⟩
 kernel_rfl
theorem AXu : AD (AB Tryz.f153 1) 2 = [] := by kernel_rfl
theorem AXx : AZ Tryz.prog 0 (.loop (AB Tryz.f153 1)) (G2.loop 1) := AU JY (AHe) (AA AXu trivial)
theorem AHf : ∀ v, DJ v = roundOf Tryz.prog VW G2 1 0 87 (AB Tryz.f153 0) AFR AFO v := by
 rintro ⟨a0, a1, a2, a3, a4, a5, a6, ⟨⟩⟩
 kernel_rfl
theorem AXv : AD (AB Tryz.f153 0) 1 = [(1, AB Tryz.f153 1)] := by kernel_rfl
theorem AXy : AZ Tryz.prog 0 (.loop (AB Tryz.f153 0)) (G2.loop 0) := AU JY (AHf) (AA AXv ⟨AXx, trivial⟩)
theorem ARG : ∀ v, Px v = AP Tryz.prog VW G2 Tryz.f153 YY YX YW v := by
 rintro ⟨a0, ⟨⟩⟩
 kernel_rfl
theorem Abk : AD (AR Tryz.f153) 0 = [(0, AB Tryz.f153 0), (2, AB Tryz.f153 2)] := by kernel_rfl
theorem AMa : AQ Tryz.prog 153 (AF 1 YY YX YW N9) := AI JY Tryz.func153 (by kernel_rfl) (by kernel_rfl) rfl (fun v => (AFS v).trans (ARG v)) (AA Abk ⟨AXy, AXw, trivial⟩)
def ADb : Env := VW.ext 153 true true (AF 1 YY YX YW N9)
theorem Wp : AX Tryz.prog ADb := Env.AY JY AMa (fun _ => AG rfl rfl) (fun _ => AH rfl rfl)
abbrev AhV : Hints := {  }
theorem AbN : ∀ v, X3 v = AP Tryz.prog ADb AhV Tryz.f184 ALe ALd ALc v := by
 rintro ⟨a0, a1, a2, ⟨⟩⟩
 kernel_rfl
theorem AhU : AD (AR Tryz.f184) 0 = [] := by kernel_rfl
theorem AVq : AQ Tryz.prog 184 (AF 3 ALe ALd ALc asked) := AI Wp Tryz.func184 (by kernel_rfl) (by kernel_rfl) rfl (fun v => (AQn v).trans (AbN v)) (AA AhU trivial)
def AMD : Env := ADb.ext 184 true true (AF 3 ALe ALd ALc asked)
theorem AD7 : AX Tryz.prog AMD := Env.AY Wp AVq (fun _ => AG rfl rfl) (fun _ => AH rfl rfl)
abbrev Ah9 : Hints := {  }
theorem Adx : ∀ v, ABV v = AP Tryz.prog AMD Ah9 Tryz.f118 ATq ATp ATo v := by
 rintro ⟨a0, ⟨⟩⟩
 kernel_rfl
theorem Ah8 : AD (AR Tryz.f118) 0 = [] := by kernel_rfl
theorem AZm : AQ Tryz.prog 118 (AF 1 ATq ATp ATo Ady) := AI AD7 Tryz.func118 (by kernel_rfl) (by kernel_rfl) rfl (fun v => (AJ5 v).trans (Adx v)) (AA Ah8 trivial)
def AV6 : Env := AMD.ext 118 true true (AF 1 ATq ATp ATo Ady)
theorem AHL : AX Tryz.prog AV6 := Env.AY AD7 AZm (fun _ => AG rfl rfl) (fun _ => AH rfl rfl)
abbrev AVY : Hints := {  }
theorem ALG : ∀ v, HZ v = AP Tryz.prog AV6 AVY Tryz.f74 PM PL PK v := by
 rintro ⟨a0, a1, ⟨⟩⟩
 kernel_rfl
theorem AVX : AD (AR Tryz.f74) 0 = [] := by kernel_rfl
theorem AE8 : AQ Tryz.prog 74 (AF 2 PM PL PK Fz) := AI AHL Tryz.func74 (by kernel_rfl) (by kernel_rfl) rfl (fun v => (Lz v).trans (ALG v)) (AA AVX trivial)
def Pj : Env := AV6.ext 74 true true (AF 2 PM PL PK Fz)
theorem N3 : AX Tryz.prog Pj := Env.AY AHL AE8 (fun _ => AG rfl rfl) (fun _ => AH rfl rfl)
abbrev Afi : Hints := { fp := fun n => match n with | 1 => [[], [], [], [], [], [], [], []] | _ => [] }
theorem AXp : ∀ v, XY v = AP Tryz.prog Pj Afi Tryz.f204 AHW AHV AHU v := by
 rintro ⟨a0, a1, ⟨⟩⟩
 kernel_rfl
theorem Afh : AD (AR Tryz.f204) 0 = [] := by kernel_rfl
theorem AQ8 : AQ Tryz.prog 204 (AF 2 AHW AHV AHU BB) := AI N3 Tryz.func204 (by kernel_rfl) (by kernel_rfl) rfl (fun v => (AMK v).trans (AXp v)) (AA Afh trivial)
def ALx : Env := Pj.ext 204 true true (AF 2 AHW AHV AHU BB)
theorem ADY : AX Tryz.prog ALx := Env.AY N3 AQ8 (fun _ => AG rfl rfl) (fun _ => AH rfl rfl)
abbrev Ags : Hints := {  }
theorem AaD : ∀ v, Xs v = AP Tryz.prog ALx Ags Tryz.f134 AKL AKK AKJ v := by
 rintro ⟨a0, ⟨⟩⟩
 kernel_rfl
theorem Agr : AD (AR Tryz.f134) 0 = [] := by kernel_rfl
theorem AUH : AQ Tryz.prog 134 (AF 1 AKL AKK AKJ APV) := AI ADY Tryz.func134 (by kernel_rfl) (by kernel_rfl) rfl (fun v => (APU v).trans (AaD v)) (AA Agr trivial)
def AL5 : Env := ALx.ext 134 true true (AF 1 AKL AKK AKJ APV)
theorem ADw : AX Tryz.prog AL5 := Env.AY ADY AUH (fun _ => AG rfl rfl) (fun _ => AH rfl rfl)
abbrev AbM : Hints := {  }
theorem AQl : ∀ v, NJ v = AP Tryz.prog AL5 AbM Tryz.f100 UX UW UU v := by
 rintro ⟨a0, ⟨⟩⟩
 kernel_rfl
theorem AbL : AD (AR Tryz.f100) 0 = [] := by kernel_rfl
theorem ALb : AQ Tryz.prog 100 (AF 1 UX UW UU bitsLen) := AI ADw Tryz.func100 (by kernel_rfl) (by kernel_rfl) rfl (fun v => (ADO v).trans (AQl v)) (AA AbL trivial)
def Vk : Env := AL5.ext 100 true true (AF 1 UX UW UU bitsLen)
theorem SB : AX Tryz.prog Vk := Env.AY ADw ALb (fun _ => AG rfl rfl) (fun _ => AH rfl rfl)
abbrev AXl : Hints := { fp := fun n => match n with | 3 => [[], [0], [0], [], [0], [0], [], [], [0], [1]] | 2 => [[], [0], [0], [], [0], [0], [], [], [0], [1]] | 1 => [[], [0], [0], [], [0], [0], [], [], [0], [1]] | _ => [] }
theorem AMG : ∀ v, Mb v = AP Tryz.prog Vk AXl Tryz.f191 SK SJ SH v := by
 rintro ⟨a0, ⟨⟩⟩
 kernel_rfl
theorem AXk : AD (AR Tryz.f191) 0 = [] := by kernel_rfl
theorem AHT : AQ Tryz.prog 191 (AF 1 SK SJ SH xorNext) := AI SB Tryz.func191 (by kernel_rfl) (by kernel_rfl) rfl (fun v => (YE v).trans (AMG v)) (AA AXk trivial)
def VJ : Env := Vk.ext 191 false true (AF 1 SK SJ SH xorNext)
theorem Rc : AX Tryz.prog VJ := Env.AY SB AHT ((by simp)) (fun _ => AH rfl rfl)
abbrev AZj : Hints := {  }
theorem AO7 : ∀ v, M4 v = AP Tryz.prog VJ AZj Tryz.f190 Tb Ta TZ v := by
 rintro ⟨a0, ⟨⟩⟩
 kernel_rfl
theorem AZi : AD (AR Tryz.f190) 0 = [] := by kernel_rfl
theorem AJz : AQ Tryz.prog 190 (AF 1 Tb Ta TZ Qf) := AI Rc Tryz.func190 (by kernel_rfl) (by kernel_rfl) rfl (fun v => (ABU v).trans (AO7 v)) (AA AZi trivial)
def JV : Env := VJ.ext 190 true true (AF 1 Tb Ta TZ Qf)
theorem Gk : AX Tryz.prog JV := Env.AY Rc AJz (fun _ => AG rfl rfl) (fun _ => AH rfl rfl)
abbrev ACD : Hints := { loop := fun n => match n with | 0 => Aa 1 53 AXE AXC AXA | 1 => Aa 1 53 AXD AXB AW9 | _ => fun _ _ _ => none, fp := fun n => match n with | 4 => [[], [], [], [], [], [], [], [0], [0], [], [], [], [0], [0], [], [], []] | 6 => [[], [], [], [], [], [], [], [], [0], [0], [], [], [0], [0], [0], [1], [0], [1]] | _ => [] }
theorem AUX : ∀ v, AW9 v = roundOf Tryz.prog JV ACD 2 1 53 (AB Tryz.f207 1) AXD AXB v := by
 rintro ⟨a0, a1, a2, a3, a4, ⟨⟩⟩
 kernel_rfl
theorem Agz : AD (AB Tryz.f207 1) 2 = [] := by kernel_rfl
theorem Ag1 : AZ Tryz.prog 1 (.loop (AB Tryz.f207 1)) (ACD.loop 1) := AU Gk (AUX) (AA Agz trivial)
theorem AUY : ∀ v, AXA v = roundOf Tryz.prog JV ACD 1 1 53 (AB Tryz.f207 0) AXE AXC v := by
 rintro ⟨a0, a1, a2, a3, ⟨⟩⟩
 kernel_rfl
theorem Ag0 : AD (AB Tryz.f207 0) 1 = [(1, AB Tryz.f207 1)] := by kernel_rfl
theorem Ag2 : AZ Tryz.prog 1 (.loop (AB Tryz.f207 0)) (ACD.loop 0) := AU Gk (AUY) (AA Ag0 ⟨Ag1, trivial⟩)
theorem AeK : ∀ v, AeL v = AP Tryz.prog JV ACD Tryz.f207 AUb AUa AUZ v := by
 rintro ⟨a0, a1, a2, ⟨⟩⟩
 kernel_rfl
theorem AiF : AD (AR Tryz.f207) 0 = [(0, AB Tryz.f207 0)] := by kernel_rfl
theorem AaK : AQ Tryz.prog 207 (AF 4 AUb AUa AUZ AiG) := AI Gk Tryz.func207 (by kernel_rfl) (by kernel_rfl) rfl (fun v => (Ag3 v).trans (AeK v)) (AA AiF ⟨Ag2, trivial⟩)
def AL7 : Env := JV.DD 207 3 204 (AF 4 AUb AUa AUZ AiG)
theorem VV : AX Tryz.prog AL7 := Env.BD Gk AaK (AH rfl rfl)
abbrev AIq : Hints := { loop := fun n => match n with | 0 => Aa 1 82 ANU ANT ANS | _ => fun _ _ _ => none, fp := fun n => match n with | 6 => [[], [], [], [], [], [], [], [], [], [], [], [], [0], [0], [], [], [], [], [0], [0], [0], [1], [0], [1]] | 5 => [[], [], [], [], [], [0], [0], [], [], [], [], [0], [0], [], [], []] | 3 => [[], [], [], [], [], [], [], [], [], [], [0], [0], [], [], [], [], [], [0], [0], [], [], []] | _ => [] }
theorem ANR : ∀ v, ANS v = roundOf Tryz.prog AL7 AIq 1 1 82 (AB Tryz.f215 0) ANU ANT v := by
 rintro ⟨a0, a1, a2, a3, ⟨⟩⟩
 kernel_rfl
theorem Ach : AD (AB Tryz.f215 0) 1 = [] := by kernel_rfl
theorem Aci : AZ Tryz.prog 1 (.loop (AB Tryz.f215 0)) (AIq.loop 0) := AU VV (ANR) (AA Ach trivial)
theorem AYo : ∀ v, AWX v = AP Tryz.prog AL7 AIq Tryz.f215 AIp AIo AIn v := by
 rintro ⟨a0, a1, a2, a3, ⟨⟩⟩
 kernel_rfl
theorem AgG : AD (AR Tryz.f215) 0 = [(0, AB Tryz.f215 0)] := by kernel_rfl
theorem ASA : AQ Tryz.prog 215 (AF 5 AIp AIo AIn Ack) := AI VV Tryz.func215 (by kernel_rfl) (by kernel_rfl) rfl (fun v => (Acj v).trans (AYo v)) (AA AgG ⟨Aci, trivial⟩)
def Rp : Env := AL7.DD 215 4 204 (AF 5 AIp AIo AIn Ack)
theorem KQ : AX Tryz.prog Rp := Env.BD VV ASA (AH rfl rfl)
end
end Go.Pev
end
