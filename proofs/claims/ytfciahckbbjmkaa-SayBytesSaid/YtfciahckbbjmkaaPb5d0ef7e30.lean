/- A part of the proofs of this seat: PevClone Pln PlnB PlnM PevTake PevClaim G27M1 G27M2 G27M S27a S27b S27c. -/
import Derived.Test.YtfciahckbbjmkaaPac48b2097e
import Derived.Lib.SliceRun
import Derived.IntWalk
import Derived.Sort.AssemblyPlain
import Derived.ProofKit
import Derived.ChangeArms
import Derived.ReadAgain
import Derived.Deep.Slices
import Derived.OpenShut
set_option linter.unusedVariables false
set_option linter.unusedSimpArgs false
set_option linter.unusedSectionVars false
section
namespace Go.Pev
open Go.RowKit
def cloneR {α : Type} (xs : List α) : Option (List α) := match fitsR (dlen xs) with
  | true => some xs
  | false => none
def opsAt : Code → Nat → List Oper
  | .region id ops _, n => if id = n then ops.toList else []
  | .seq a b, n => opsAt a n ++ opsAt b n
  | .cond _ a b, n => opsAt a n ++ opsAt b n
  | .block _ c, n => opsAt c n
  | .loop c, n => opsAt c n
  | _, _ => []
def opAt (fn : Func) (n i : Nat) : Oper := ((opsAt (bodyOf fn) n)[i]?).getD default
structure CloneShape (P : Program) (fn : Func) (T e : TypeId) (t : Ty) : Prop where
  body : fn.body = some (.seq (.region 0 #[opAt fn 0 0] false) (.seq (.seq (.region 1 #[opAt fn 1 0, opAt fn 1 1] false) (.cond (.tmp 4) (.seq (.region 2 #[opAt fn 2 0] false) .ret) .skip)) (.seq (.region 3 #[opAt fn 3 0, opAt fn 3 1, opAt fn 3 2, opAt fn 3 3] false) .ret)))
  nt : fn.ntmps = 8
  res : fn.results = #[.tmp 2]
  d : (opAt fn 0 0).dst = some 2 ∧ (opAt fn 1 0).dst = some 3 ∧ (opAt fn 1 1).dst = some 4 ∧ (opAt fn 2 0).dst = some 2 ∧ (opAt fn 3 0).dst = some 5 ∧ (opAt fn 3 1).dst = some 6 ∧ (opAt fn 3 2).dst = some 7 ∧ (opAt fn 3 3).dst = some 2
  g : (opAt fn 0 0).guard = none ∧ (opAt fn 1 0).guard = none ∧ (opAt fn 1 1).guard = none ∧ (opAt fn 2 0).guard = none ∧ (opAt fn 3 0).guard = none ∧ (opAt fn 3 1).guard = none ∧ (opAt fn 3 2).guard = none ∧ (opAt fn 3 3).guard = none
  o00 : (opAt fn 0 0).op = .assign (.const (.slice none 0 0))
  o10 : (opAt fn 1 0).op = .move (.tmp 0)
  o11 : (opAt fn 1 1).op = .binOp .eql T (.tmp 3) (.const (.slice none 0 0)) T
  o20 : (opAt fn 2 0).op = .assign (.const (.slice none 0 0))
  o30 : (opAt fn 3 0).op = .buildSlice T 0 #[]
  o31 : (opAt fn 3 1).op = .move (.tmp 0)
  o32 : (opAt fn 3 2).op = .call { callee := .builtin .append, args := #[.tmp 5, .tmp 6], argTypes := #[T, T] }
  o33 : (opAt fn 3 3).op = .assign (.tmp 7)
  sl : sliceAt P T = some (e, t)
  z : (zeroAt P e).isSome = true
  by1 : (P.info? e).map (fun i => decide (i.bytes ≤ 1024)) = some true
section
variable {P : Program} {g : FuncId}
variable {fn : Func} {T e : TypeId} {t : Ty}
end
end Go.Pev
end
section
namespace Go.Pev.Pl
theorem wrap_in {n : Int} (h : -9223372036854775808 ≤ n ∧ n ≤ 9223372036854775807) : IntKind.wrap .i64 n = n := IntWalk.i64_in n h
section
set_option linter.unusedSectionVars false
variable {α : Type} [Inhabited α]
end
theorem ilt_nat (a b : Nat) : ilt (a : Int) (b : Int) = decide (a < b) := by rw [ilt_eq]; simp
theorem ile_nat (a b : Nat) : ile (a : Int) (b : Int) = decide (a ≤ b) := by rw [ile_eq]; simp
theorem ieq_nat (a b : Nat) : ieq (a : Int) (b : Int) = decide (a = b) := by
  rw [ieq_eq]
  by_cases h : a = b
  · simp [h]
  · simp [h]; omega
section
theorem wrap_add {a b : Nat} (h : a + b < 9223372036854775808) : IntKind.wrap .i64 ((a : Int) + (b : Int)) = ((a + b : Nat) : Int) := by rw [wrap_in (by omega)]; omega
theorem wrap_add1 {a : Nat} (h : a + 1 < 9223372036854775808) : IntKind.wrap .i64 ((a : Int) + 1) = ((a + 1 : Nat) : Int) := by rw [wrap_in (by omega)]; omega
theorem wrap_2mul {a : Nat} (h : 2 * a < 9223372036854775808) : IntKind.wrap .i64 ((2 : Int) * (a : Int)) = ((2 * a : Nat) : Int) := by rw [wrap_in (by omega)]; omega
end
end Go.Pev.Pl
end
section
namespace Go.Pev.Pl
section
variable {α : Type}
theorem idx_l {xs : List α} {n : Nat} (z : α) (h : n < xs.length) : idx xs (n : Int) = some (xs.getD n z) := by
  rw [idx_eq, idxR, if_neg (by omega)]
  simp [h]
theorem idx_get (xs : List α) (n : Nat) : idx xs (n : Int) = xs[n]? := by
  rw [idx_eq, idxR, if_neg (by omega)]
  simp
theorem dget_l (xs : List α) (n : Nat) (z : α) : dget xs (dnat (n : Int)) z = xs.getD n z := by simp [dget, dnat]
theorem dlen_l (xs : List α) : dlen xs = (xs.length : Int) := rfl
theorem dapp_l (xs ys : List α) : dapp xs ys = xs ++ ys := rfl
theorem subl_l {xs : List α} {l h : Nat} (h1 : l ≤ h) (h2 : h ≤ xs.length) : subl xs (l : Int) (h : Int) = some ((xs.take h).drop l) := by
  rw [subl_eq, sublR, if_pos (by omega)]
  simp
end
theorem fits_l {n : Int} (h : n ≤ 4294967296) : fits n = true := (fits_iff n).2 h
theorem ieq_dlen {α β : Type} (xs : List α) (ys : List β) : ieq (dlen xs) (dlen ys) = decide (xs.length = ys.length) := by rw [dlen_l, dlen_l, ieq_nat]
theorem ieq_dec (a b : Int) : ieq a b = decide (a = b) := by
  rw [ieq_eq]
  by_cases h : a = b <;> simp [h]
def walk {α β ρ : Type} (f : β → α → α ⊕ ρ) (fin : α → ρ) : List β → α → ρ
  | [], a => fin a
  | x :: xs, a => match f x a with
    | .inl a => walk f fin xs a
    | .inr r => r
theorem walk_rule {σ ρ α β : Type} {step : σ → Option (σ ⊕ ρ)} (st : Nat → α → σ) (xs : List β) (f : β → α → α ⊕ ρ) (fin : α → ρ) (I : Nat → α → Prop)
    (h : ∀ i x a, i < xs.length → xs[i]? = some x → I i a → (∀ a', f x a = .inl a' → step (st i a) = some (.inl (st (i + 1) a')) ∧ I (i + 1) a') ∧ (∀ r, f x a = .inr r → step (st i a) = some (.inr r)))
    (hN : ∀ a, I xs.length a → step (st xs.length a) = some (.inr (fin a))) :
    ∀ (m i n : Nat) (a : α), xs.length - i = m → i ≤ xs.length → m < n → I i a → iterO step n (st i a) = some (walk f fin (xs.drop i) a) := by
  intro m
  induction m with
  | zero =>
    intro i n a hk hi hn hI
    obtain ⟨n, rfl⟩ : ∃ k, n = k + 1 := ⟨n - 1, by omega⟩
    have e : i = xs.length := by omega
    subst e
    rw [iterO, hN a hI, List.drop_length]
    rfl
  | succ m ih =>
    intro i n a hk hi hn hI
    obtain ⟨n, rfl⟩ : ∃ k, n = k + 1 := ⟨n - 1, by omega⟩
    have hi' : i < xs.length := by omega
    obtain ⟨g1, g2⟩ := h i xs[i] a hi' (by simp [hi']) hI
    rw [List.drop_eq_getElem_cons hi', walk, iterO]
    cases hf : f xs[i] a with
    | inl a' =>
      obtain ⟨e, hI'⟩ := g1 a' hf
      rw [e]
      exact ih (i + 1) n a' (by omega) (by omega) (by omega) hI'
    | inr r => rw [g2 r hf]
theorem walkL {σ ρ α β : Type} {step : σ → Option (σ ⊕ ρ)} (st : Nat → α → σ) (xs : List β) (f : β → α → α ⊕ ρ) (fin : α → ρ) (I : Nat → α → Prop) (hs : xs.length < 9223372036854775808)
    (h : ∀ i x a, i < xs.length → xs[i]? = some x → I i a → (∀ a', f x a = .inl a' → step (st i a) = some (.inl (st (i + 1) a')) ∧ I (i + 1) a') ∧ (∀ r, f x a = .inr r → step (st i a) = some (.inr r)))
    (hN : ∀ a, I xs.length a → step (st xs.length a) = some (.inr (fin a))) (a : α) (h0 : I 0 a) : iterL step many (st 0 a) = some (walk f fin xs a) := by
  have hm : 9223372036854775808 < many := by simp only [many]; omega
  rw [iterL_eq, walk_rule st xs f fin I h hN xs.length 0 many a (by omega) (by omega) (by omega) h0]
  rfl
theorem eq_of_places {α : Type} {xs ys : List α} (z : α) (hl : xs.length = ys.length) (h : ∀ j, j < xs.length → xs.getD j z = ys.getD j z) : xs = ys := by
  apply List.ext_getElem hl
  intro i h1 h2
  have := h i h1
  simpa [h1, h2] using this
theorem ne_of_place {α : Type} {xs ys : List α} (z : α) {j : Nat} (h : xs.getD j z ≠ ys.getD j z) : xs ≠ ys := fun e => h (by rw [e])
theorem scan_rule {σ ρ : Type} {step : σ → Option (σ ⊕ ρ)} (st : Nat → σ) (N : Nat) (P : Nat → Bool) (rt : Nat → ρ) (rf : ρ)
    (h : ∀ i, i < N → step (st i) = if P i then some (.inr (rt i)) else some (.inl (st (i + 1)))) (hN : step (st N) = some (.inr rf)) :
    ∀ (m i n : Nat), N - i = m → i ≤ N → m < n → (∃ k, i ≤ k ∧ k < N ∧ P k = true ∧ (∀ j, i ≤ j → j < k → P j = false) ∧ iterO step n (st i) = some (rt k)) ∨ ((∀ j, i ≤ j → j < N → P j = false) ∧ iterO step n (st i) = some rf) := by
  intro m
  induction m with
  | zero =>
    intro i n hk hi hn
    obtain ⟨n, rfl⟩ : ∃ k, n = k + 1 := ⟨n - 1, by omega⟩
    have e : i = N := by omega
    subst e
    exact .inr ⟨fun j h1 h2 => by omega, by rw [iterO, hN]⟩
  | succ m ih =>
    intro i n hk hi hn
    obtain ⟨n, rfl⟩ : ∃ k, n = k + 1 := ⟨n - 1, by omega⟩
    have hi' : i < N := by omega
    cases hP : P i
    · have e : iterO step (n + 1) (st i) = iterO step n (st (i + 1)) := by rw [iterO, h i hi', hP]; rfl
      rw [e]
      rcases ih (i + 1) n (by omega) (by omega) (by omega) with ⟨k, h1, h2, h3, h4, h5⟩ | ⟨h1, h2⟩
      · refine .inl ⟨k, by omega, h2, h3, fun j a1 a2 => ?_, h5⟩
        by_cases ej : j = i
        · subst ej; exact hP
        · exact h4 j (by omega) a2
      · refine .inr ⟨fun j a1 a2 => ?_, h2⟩
        by_cases ej : j = i
        · subst ej; exact hP
        · exact h1 j (by omega) a2
    · exact .inl ⟨i, Nat.le_refl _, hi', hP, fun j a1 a2 => by omega, by rw [iterO, h i hi', hP]; rfl⟩
theorem scanL {σ ρ : Type} {step : σ → Option (σ ⊕ ρ)} (st : Nat → σ) (N : Nat) (P : Nat → Bool) (rt : Nat → ρ) (rf : ρ) (hs : N < 9223372036854775808)
    (h : ∀ i, i < N → step (st i) = if P i then some (.inr (rt i)) else some (.inl (st (i + 1)))) (hN : step (st N) = some (.inr rf)) :
    (∃ k, k < N ∧ P k = true ∧ (∀ j, j < k → P j = false) ∧ iterL step many (st 0) = some (rt k)) ∨ ((∀ j, j < N → P j = false) ∧ iterL step many (st 0) = some rf) := by
  have hm : 9223372036854775808 < many := by simp only [many]; omega
  rw [iterL_eq]
  rcases scan_rule st N P rt rf h hN N 0 many rfl (by omega) (by omega) with ⟨k, h1, h2, h3, h4, h5⟩ | ⟨h1, h2⟩
  · exact .inl ⟨k, h2, h3, fun j a => h4 j (by omega) a, h5⟩
  · exact .inr ⟨fun j a => h1 j (by omega) a, h2⟩
end Go.Pev.Pl
end
section
namespace Go.Pev.Pl
section
variable {β : Type}
end
def dd : List Int → List Int → List Int
  | ks, [] => ks
  | ks, x :: xs => dd (if x ∈ ks then ks else ks ++ [x]) xs
theorem walk_fold {α β ρ : Type} (g : β → α → α) (fin : α → ρ) : ∀ (xs : List β) (a : α), walk (fun x a => .inl (g x a)) fin xs a = fin (xs.foldl (fun a x => g x a) a) := by
  intro xs
  induction xs with
  | nil => intro a; rfl
  | cons x xs ih => intro a; rw [walk, List.foldl_cons]; exact ih _
theorem findL {σ ρ β : Type} {step : σ → Option (σ ⊕ ρ)} (st : Nat → σ) (xs : List β) (P : β → Bool) (rt : Nat → ρ) (rf : ρ) (hs : xs.length < 9223372036854775808)
    (h : ∀ i x, i < xs.length → xs[i]? = some x → step (st i) = if P x then some (.inr (rt i)) else some (.inl (st (i + 1)))) (hN : step (st xs.length) = some (.inr rf)) :
    iterL step many (st 0) = some (if xs.any P then rt (xs.findIdx P) else rf) := by
  have key : ∀ (l : List β) (a : Nat), walk (fun x (a : Nat) => if P x then .inr (rt a) else .inl (a + 1)) (fun _ => rf) l a = if l.any P then rt (a + l.findIdx P) else rf := by
    intro l
    induction l with
    | nil => intro a; rfl
    | cons x l ih =>
      intro a
      rw [walk, List.any_cons, List.findIdx_cons]
      by_cases hx : P x = true
      · simp [hx]
      · simp only [hx, Bool.false_eq_true, if_false, Bool.false_or, cond_false]
        rw [ih, show a + 1 + List.findIdx P l = a + (List.findIdx P l + 1) by omega]
  have := walkL (step := step) (fun i (a : Nat) => st a) xs (fun x (a : Nat) => if P x then .inr (rt a) else .inl (a + 1)) (fun _ => rf) (fun i a => a = i) hs
    (fun i x a hi hx ha => by
      subst ha
      refine ⟨fun a' h' => ?_, fun r h' => ?_⟩
      · rw [h a x hi hx]
        split at h'
        · cases h'
        · rename_i hp
          cases h'
          simp [hp]
      · rw [h a x hi hx]
        split at h'
        · rename_i hp
          cases h'
          simp [hp]
        · cases h')
    (fun a ha => by subst ha; exact hN) 0 rfl
  rw [this, key, Nat.zero_add]
theorem idx_some {α : Type} {xs : List α} {n : Nat} {x : α} (h : xs[n]? = some x) : idx xs (n : Int) = some x := by rw [idx_get, h]
theorem dget_some {α : Type} {xs : List α} {n : Nat} {x z : α} (h : xs[n]? = some x) : dget xs (dnat (n : Int)) z = x := by
  rw [dget_l, List.getD_eq_getElem?_getD, h]; rfl
theorem subl_0 {α : Type} {xs : List α} {h : Nat} (h2 : h ≤ xs.length) : subl xs (0 : Int) (h : Int) = some (xs.take h) := by
  have := subl_l (xs := xs) (l := 0) (Nat.zero_le h) h2
  simpa using this
end Go.Pev.Pl
end
section
namespace Go.Pev
open Go.RowKit
section
variable {P : Program} {g : FuncId}
theorem mkCall_none {na : Nat} {its outs : Items} {rs : List RS} {f : denL (leaves its) → Option (denL (leaves outs))} (hf : ∀ x, f x = none) : SpecOK P g (mkCall na its outs rs f) := by
  intro R args H fz slot k r hk
  unfold mkCall at hk
  split at hk
  · cases hk
  · split at hk
    · cases hk
    · rw [hf] at hk; cases hk
end
section
variable {S : List Nat} {H H' : List Ob}
def noObj : Items → Bool
  | [] => true
  | (.obj _, _) :: _ => false
  | _ :: r => noObj r
def refsIn (S : List Nat) (v : AV) : Prop := ∀ id ∈ refsAV v, id ∈ S
def bsIn (S : List Nat) (bs : List Bnd) : Prop := ∀ b ∈ bs, ∀ id, b.id? = some id → id ∈ S
theorem bsIn.get {bs : List Bnd} (h : bsIn S bs) {j : Nat} {b : Bnd} {id : Nat} (hj : bs[j]? = some b) (hi : b.id? = some id) : id ∈ S := h b (List.mem_of_getElem? hj) id hi
theorem bsIn.snoc {bs : List Bnd} (h : bsIn S bs) {b : Bnd} (hb : ∀ id, b.id? = some id → id ∈ S) : bsIn S (bs ++ [b]) := by
  intro x hx id hi
  rcases List.mem_append.1 hx with hx | hx
  · exact h x hx id hi
  · simp only [List.mem_singleton] at hx; subst hx; exact hb id hi
theorem look_in {tm : List AV} {bs : List Bnd} {l : Loc} (hS : ∀ id ∈ refsL tm, id ∈ S) (hc : ClosedS S H) (hH : ∀ id ∈ S, H[id]? = H'[id]?) (hb : bsIn S bs) (hl : ∀ j, l ≠ .obj j) :
    look tm H bs l = look tm H' bs l ∧ ∀ v, look tm H bs l = some v → refsIn S v := by
  cases l with
  | tmp t =>
    refine ⟨rfl, fun v hv id hid => hS id ?_⟩
    exact refsL_of_mem (List.mem_of_getElem? hv) hid
  | cell j c =>
    simp only [look]
    cases hj : bs[j]? with
    | none => exact ⟨rfl, fun v hv => by cases hv⟩
    | some b =>
      cases b with
      | none => exact ⟨rfl, fun v hv => by cases hv⟩
      | cut id => exact ⟨rfl, fun v hv => by cases hv⟩
      | whole id =>
        have hid := hb.get hj (id := id) rfl
        simp only
        rw [hH id hid]
        refine ⟨rfl, fun v hv => ?_⟩
        cases ho : H'[id]? with
        | none => rw [ho] at hv; cases hv
        | some o =>
          rw [ho] at hv
          cases o <;> simp only at hv <;> first | (cases hv; done) | skip
          rename_i cs
          intro i hi
          exact hc id hid cs (by rw [hH id hid, ho]) i (refsL_of_mem (List.mem_of_getElem? hv) hi)
  | cap t i =>
    refine ⟨rfl, fun v hv => ?_⟩
    simp only [look] at hv
    cases ht : tm[t]? with
    | none => rw [ht] at hv; cases hv
    | some a =>
      rw [ht] at hv
      cases a <;> simp only at hv <;> first | (cases hv; done) | skip
      · rename_i f cs
        intro id hid
        refine hS id (refsL_of_mem (List.mem_of_getElem? ht) ?_)
        simp only [refsAV]
        exact refsL_of_mem (List.mem_of_getElem? hv) hid
      · rename_i f cs
        intro id hid
        refine hS id (refsL_of_mem (List.mem_of_getElem? ht) ?_)
        simp only [refsAV]
        exact refsL_of_mem (List.mem_of_getElem? hv) hid
  | obj j => exact absurd rfl (hl j)
theorem setFrz_agree {f : List Nat} {fz fz' : List Bool} (hl : fz.length = fz'.length) {id : Nat} (h : fz.getD id false = fz'.getD id false) : (setFrz f fz).getD id false = (setFrz f fz').getD id false := by
  rw [setFrz_getD, setFrz_getD, h, hl]
theorem dec_in {tm : List AV} (hS : ∀ id ∈ refsL tm, id ∈ S) (hc : ClosedS S H) (hH : ∀ id ∈ S, H[id]? = H'[id]?) : ∀ (its : Items) (fz fz' : List Bool) (bs : List Bnd), noObj its = true → bsIn S bs → fz.length = fz'.length → (∀ id ∈ S, fz.getD id false = fz'.getD id false) →
    dec tm H its fz bs = dec tm H' its fz' bs := by
  intro its
  induction its with
  | nil => intro fz fz' bs _ _ _ _; rfl
  | cons p r ih =>
    intro fz fz' bs hn hb hlen hz
    obtain ⟨l, c⟩ := p
    have hno : (∀ j, l ≠ .obj j) ∧ noObj r = true := by
      cases l with
      | obj j => cases hn
      | tmp t => exact ⟨fun j h => (by cases h), hn⟩
      | cell a b => exact ⟨fun j h => (by cases h), hn⟩
      | cap a b => exact ⟨fun j h => (by cases h), hn⟩
    obtain ⟨e1, e2⟩ := look_in hS hc hH hb hno.1
    have ihr := fun bs hb => ih fz fz' bs hno.2 hb hlen hz
    have unf : ∀ id ∈ S, unfrozen fz id = unfrozen fz' id := fun id hid => by unfold unfrozen; rw [hz id hid]
    cases c with
    | dat t =>
      simp only [dec, ← e1]
      cases hv : look tm H bs l with
      | none => rfl
      | some v =>
        simp only
        rw [asTy_local t v fun id hid => hH id (e2 v hv id hid)]
        cases asTy H' t v with
        | none => rfl
        | some q =>
          obtain ⟨x, f⟩ := q
          simp only
          rw [ih (setFrz f fz) (setFrz f fz') bs hno.2 hb (by rw [setFrz_len, setFrz_len, hlen]) (fun id hid => setFrz_agree hlen (hz id hid))]
    | own T e =>
      simp only [dec, ← e1]
      cases hv : look tm H bs l with
      | none => rfl
      | some v =>
        cases v with
        | nils e' => simp only; rw [ihr _ (hb.snoc fun id h => by cases h)]
        | own id =>
          have hid : id ∈ S := e2 _ hv id (by simp [refsAV])
          simp only
          rw [← hH id hid, unf id hid, ihr _ (hb.snoc fun id' h => by simp only [Bnd.id?, Option.some.injEq] at h; subst h; exact hid)]
        | win id off n =>
          have hid : id ∈ S := e2 _ hv id (by simp [refsAV])
          cases off with
          | succ off => rfl
          | zero =>
            simp only
            rw [← hH id hid, unf id hid, ihr _ (hb.snoc fun id' h => by simp only [Bnd.id?, Option.some.injEq] at h; subst h; exact hid)]
        | _ => rfl
    | box n =>
      simp only [dec, ← e1]
      cases hv : look tm H bs l with
      | none => rfl
      | some v =>
        cases v with
        | ptr id off =>
          have hid : id ∈ S := e2 _ hv id (by simp [refsAV])
          cases off with
          | succ off => rfl
          | zero =>
            simp only
            rw [← hH id hid, ihr _ (hb.snoc fun id' h => by simp only [Bnd.id?, Option.some.injEq] at h; subst h; exact hid)]
        | _ => rfl
    | map k v =>
      simp only [dec, ← e1]
      cases hv : look tm H bs l with
      | none => rfl
      | some u =>
        cases u with
        | mp id =>
          have hid : id ∈ S := e2 _ hv id (by simp [refsAV])
          simp only
          rw [← hH id hid, ihr _ (hb.snoc fun id' h => by simp only [Bnd.id?, Option.some.injEq] at h; subst h; exact hid)]
        | _ => rfl
    | own' j => simp only [dec, ← e1, ihr bs hb]
    | ptr' j off => simp only [dec, ← e1, ihr bs hb]
    | map' j => simp only [dec, ← e1, ihr bs hb]
    | sub' j => simp only [dec, ← e1, ihr bs hb]
    | win' j =>
      simp only [dec, ← e1]
      rw [ihr bs hb]
      cases hv : look tm H bs l with
      | none => rfl
      | some v =>
        cases v with
        | own id =>
          have hid : id ∈ S := e2 _ hv id (by simp [refsAV])
          cases bs[j]? with
          | none => rfl
          | some b =>
            cases b with
            | whole id' =>
              refine Eq.trans (b := match decide (id = id'), H[id]? with
                | true, some (.arr _ _ ys) => (match dec tm H' r fz' bs with
                  | some (xs, bs', g) => some ((dlen ys, xs), bs', g)
                  | none => none)
                | _, _ => none) rfl ?_
              rw [hH id hid]
              rfl
            | _ => rfl
        | win id off n =>
          cases off with
          | succ off => cases bs[j]? <;> rfl
          | zero =>
            cases bs[j]? with
            | none => rfl
            | some b => cases b <;> rfl
        | _ => cases bs[j]? <;> rfl
    | clo f ps => simp only [dec, ← e1, ihr bs hb]
    | bnd f j => simp only [dec, ← e1, ihr bs hb]
    | nil e => simp only [dec, ← e1, ihr bs hb]
theorem idsOK_in {fz fz' : List Bool} : ∀ (n : Nat) (bs : List Bnd) (slot : Nat), (∀ s, slot ≤ s → s < slot + n → isFree H fz s = isFree H' fz' s) → idsOK H fz (idsOf n bs slot) bs = idsOK H' fz' (idsOf n bs slot) bs := by
  intro n
  induction n with
  | zero => intro bs slot _; cases bs <;> rfl
  | succ n ih =>
    intro bs slot h
    cases bs with
    | nil =>
      simp only [idsOf, idsOK, List.tail_nil]
      rw [h slot (Nat.le_refl _) (by omega), ih [] (slot + 1) fun s h1 h2 => h s (by omega) (by omega)]
    | cons b bs =>
      cases b with
      | whole id =>
        simp only [idsOf, idsOK, List.tail_cons]
        rw [ih bs slot fun s h1 h2 => h s h1 (by omega)]
      | none =>
        simp only [idsOf, idsOK, List.tail_cons]
        rw [h slot (Nat.le_refl _) (by omega), ih bs (slot + 1) fun s h1 h2 => h s (by omega) (by omega)]
      | cut id =>
        simp only [idsOf, idsOK, List.tail_cons]
        rw [h slot (Nat.le_refl _) (by omega), ih bs (slot + 1) fun s h1 h2 => h s (by omega) (by omega)]
theorem mkCall_in {na : Nat} {its outs : Items} {rs : List RS} {f : denL (leaves its) → Option (denL (leaves outs))} (hno : noObj its = true) (hn : Nat.ble (nobj outs) 4 = true) : LocalIn (mkCall na its outs rs f) := by
  intro R args H H' fz fz' slot k S hS hc ha
  have hn4 := Nat.le_of_ble_eq_true hn
  have hd : dec args H its fz [] = dec args H' its fz' [] := dec_in hS hc ha.heap its fz fz' [] hno (fun b hb => by cases hb) ha.len ha.wrF
  unfold mkCall
  rw [hd]
  split
  · rfl
  · rename_i x bs fr _
    split
    · rfl
    · split
      · rfl
      · have hf : ∀ (g : List Nat) s, slot ≤ s → s < slot + nobj outs → isFree H (setFrz g fz) s = isFree H' (setFrz g fz') s := fun g s h1 h2 => isFree_local ha h1 (by omega) g
        unfold backTo
        rw [idsOK_in (fz := fz) (fz' := fz') (nobj outs) bs slot (hf []), idsOK_in (fz := setFrz fr fz) (fz' := setFrz fr fz') (nobj outs) bs slot (hf fr)]
end
def cloAt (i : Nat) (args : List AV) : Option FuncId :=
  match args[i]? with
  | some (.clo f _) => some f
  | some (.bnd f _) => some f
  | _ => none
def Env.extC (E : Env) (g : FuncId) (i : Nat) (c : FuncId) (s : Spec) : Env where
  spec x := match Nat.beq x g with
    | true => fun R args H fz slot k => match cloAt i args with
      | some c' => match Nat.beq c' c with
        | true => s R args H fz slot k
        | false => E.spec x R args H fz slot k
      | .none => Option.none
    | false => E.spec x
  loc x := match Nat.beq x g with
    | true => false
    | false => E.loc x
  loc2 x := match Nat.beq x g with
    | true => E.loc2 g
    | false => E.loc2 x
theorem Env.extC_ok {P : Program} {E : Env} {g : FuncId} {i : Nat} {c : FuncId} {s : Spec} (h : EnvOK P E) (hs : SpecOK P g s) (hl2 : LocalIn s) : EnvOK P (E.extC g i c s) := by
  refine ⟨?_, ?_, ?_⟩
  · intro x
    simp only [Env.extC]
    cases hx : Nat.beq x g with
    | false => exact h.1 x
    | true =>
      have := Nat.eq_of_beq_eq_true hx
      subst this
      intro R args H fz slot k r hk
      simp only at hk
      split at hk
      · rename_i c' hc'
        split at hk
        · rename_i hb
          obtain ⟨v, e, h1, h2, h3, h4⟩ := hs R args H fz slot k r hk
          exact ⟨v, e, h1, fun R' k' => by simp only [hc', hb]; exact h2 R' k', h3, h4⟩
        · rename_i hb
          obtain ⟨v, e, h1, h2, h3, h4⟩ := h.1 x R args H fz slot k r hk
          exact ⟨v, e, h1, fun R' k' => by simp only [hc', hb]; exact h2 R' k', h3, h4⟩
      · cases hk
  · intro x hx
    simp only [Env.extC] at hx ⊢
    cases hb : Nat.beq x g with
    | true => rw [hb] at hx; cases hx
    | false => rw [hb] at hx; exact h.2.1 x hx
  · intro x hx
    simp only [Env.extC] at hx ⊢
    cases hb : Nat.beq x g with
    | true =>
      rw [hb] at hx
      have := Nat.eq_of_beq_eq_true hb
      subst this
      have h2 := h.2.2 x hx
      intro R args H H' fz fz' slot k S a1 a2 a3
      simp only
      split
      · split
        · exact hl2 R args H H' fz fz' slot k S a1 a2 a3
        · exact h2 R args H H' fz fz' slot k S a1 a2 a3
      · rfl
    | false => rw [hb] at hx; exact h.2.2 x hx
end Go.Pev
end
section
namespace Go.Pev
open Go.RowKit Go.ChangeShapes Go.WideShapes Go.ChangeAt
def readFs (P : Program) (rd : TypeId → Option Ty) : List Field → Nat → Option Ty
  | [], _ => some .unit
  | f :: r, off => match rd f.type, readFs P rd r (off + P.cellsOf f.type) with
    | some a, some b => match Nat.beq f.offset off && Nat.beq (P.cellsOf f.type) a.size with
      | true => some (.prod a b)
      | false => none
    | _, _ => none
def readTy (P : Program) : Nat → TypeId → Option Ty
  | 0, _ => none
  | n + 1, t => match P.underlying t with
    | some .bool => some .bool
    | some (.int k) => some (.int k)
    | some (.slice e) => match readTy P n e with
      | some a => match Nat.beq (P.cellsOf e) a.size && !(Nat.beq a.size 0) with
        | true => some (.slice a)
        | false => none
      | none => none
    | some (.array c e) => match readTy P n e with
      | some a => match Nat.beq (P.cellsOf e) a.size && Nat.beq (P.cellsOf t) (c * a.size) with
        | true => some (.arr c a)
        | false => none
      | none => none
    | some (.struct fs) => match readFs P (readTy P n) fs.toList 0 with
      | some a => match Nat.beq (P.cellsOf t) a.size with
        | true => some a
        | false => none
      | none => none
    | _ => none
def wfD : (t : Ty) → t.den → Prop
  | .unit, _ => True
  | .bool, _ => True
  | .int k, n => k.min ≤ n ∧ n ≤ k.max
  | .slice e, xs => List.length (α := e.den) xs ≤ maxLen ∧ ∀ x ∈ (xs : List e.den), wfD e x
  | .prod a b, d => wfD a d.1 ∧ wfD b d.2
  | .arr n e, xs => List.length (α := e.den) xs = n ∧ ∀ x ∈ (xs : List e.den), wfD e x
section
variable {H : Type} {enc : TypeId × Value → H} {P : Program} {w : World} {spare : Nat → Bool} {held : Bool}
abbrev below (w : World) : Nat → Prop := fun b => b < w.heap.size
theorem wf_int {k : IntKind} {n : Int} (h : (Lit.int k n).wf = true) : k.min ≤ n ∧ n ≤ k.max := by
  simpa [Lit.wf] using h
theorem rows_of {α : Type} {R : α → List Value → Prop} {k : Nat} : ∀ (m : Nat) (f : Nat → List Value), (∀ i, i < m → (f i).length = k ∧ ∃ x, R x (f i)) → ∃ xs : List α, xs.length = m ∧ rows R xs ((List.range m).flatMap f) ∧ ∀ x ∈ xs, ∃ i, i < m ∧ R x (f i) := by
  intro m
  induction m with
  | zero => intro f _; exact ⟨[], rfl, rfl, fun x hx => by cases hx⟩
  | succ m ih =>
    intro f h
    obtain ⟨xs, h1, h2, h3⟩ := ih f fun i hi => h i (by omega)
    obtain ⟨_, x, hx⟩ := h m (by omega)
    refine ⟨xs ++ [x], by simp [h1], ?_, fun y hy => ?_⟩
    · rw [List.range_succ, List.flatMap_append]
      exact rows_app h2 (by simp; exact ⟨f m, [], by simp, hx, rfl⟩)
    · rcases List.mem_append.1 hy with hy | hy
      · obtain ⟨i, hi, hr⟩ := h3 y hy; exact ⟨i, by omega, hr⟩
      · simp only [List.mem_singleton] at hy; subst hy; exact ⟨m, by omega, hx⟩
theorem flat_get {f : Nat → List Value} {k : Nat} : ∀ (m : Nat), (∀ i, i < m → (f i).length = k) → ∀ (j : Nat) (u : Value), ((List.range m).flatMap f)[j]? = some u → ∃ i r, i < m ∧ r < k ∧ j = i * k + r ∧ (f i)[r]? = some u := by
  intro m
  induction m with
  | zero => intro _ j u h; simp at h
  | succ m ih =>
    intro hl j u h
    rw [List.range_succ, List.flatMap_append] at h
    have hlen : ∀ m', m' ≤ m → ((List.range m').flatMap f).length = m' * k := by
      intro m' hm'
      induction m' with
      | zero => simp
      | succ m' ih' =>
        rw [List.range_succ, List.flatMap_append, List.length_append, ih' (by omega)]
        simp [hl m' (by omega), Nat.add_mul]
    rcases Nat.lt_or_ge j (m * k) with hj | hj
    · rw [List.getElem?_append_left (by rw [hlen m (Nat.le_refl _)]; exact hj)] at h
      obtain ⟨i, r, h1, h2, h3, h4⟩ := ih (fun i hi => hl i (by omega)) j u h
      exact ⟨i, r, by omega, h2, h3, h4⟩
    · rw [List.getElem?_append_right (by rw [hlen m (Nat.le_refl _)]; exact hj), hlen m (Nat.le_refl _)] at h
      simp only [List.flatMap_cons, List.flatMap_nil, List.append_nil] at h
      have hr : j - m * k < k := by
        have := lt_of_get' h
        rwa [hl m (by omega)] at this
      exact ⟨m, j - m * k, by omega, hr, by omega, h⟩
theorem addr_add (a : Addr) (i j : Nat) : (a.add i).add j = a.add (i + j) := by
  unfold Addr.add
  by_cases hi : i = 0
  · subst hi; simp
  · by_cases hj : j = 0
    · subst hj; simp
    · have : ¬ (i + j = 0) := by omega
      simp [hi, hj, Nat.add_assoc]
theorem choose_lt' {α : Type} [Inhabited α] {n : Nat} {p : Nat → α → Prop} (h : ∀ i, i < n → ∃ x, p i x) : ∃ f : Nat → α, ∀ i, i < n → p i (f i) := by
  classical
  refine ⟨fun i => if hi : i < n then Classical.choose (h i hi) else default, fun i hi => ?_⟩
  simp only [dif_pos hi]
  exact Classical.choose_spec (h i hi)
theorem readFs_dat {rd : TypeId → Option Ty} {cs : List Value} (hrd : ∀ (f : Field) (a : Ty), rd f.type = some a → (P.cellsOf f.type = a.size) → (∃ y : Nat × (DataW H × List MemPlace), DataW.trod enc P w 0 spare held y.1 f.type ((cs.drop f.offset).take (P.cellsOf f.type)) = some y.2) → ∃ d : a.den, Dat w (below w) a d ((cs.drop f.offset).take (P.cellsOf f.type)) ∧ wfD a d) :
    ∀ (fs : List Field) (off : Nat) (t : Ty), readFs P rd fs off = some t → off + t.size = cs.length → (∀ f ∈ fs, ∃ y : Nat × (DataW H × List MemPlace), DataW.trod enc P w 0 spare held y.1 f.type ((cs.drop f.offset).take (P.cellsOf f.type)) = some y.2) →
      ∃ d : t.den, Dat w (below w) t d (cs.drop off) ∧ wfD t d := by
  intro fs
  induction fs with
  | nil =>
    intro off t h hl _
    simp only [readFs, Option.some.injEq] at h
    subst h
    refine ⟨(), ?_, trivial⟩
    show cs.drop off = []
    simp [Ty.size] at hl
    exact List.drop_eq_nil_of_le (by omega)
  | cons f r ih =>
    intro off t h hl hf
    simp only [readFs] at h
    split at h
    · rename_i a b ha hb
      split at h
      · rename_i hc
        simp only [Option.some.injEq] at h
        subst h
        simp only [Bool.and_eq_true] at hc
        have h1 := Nat.eq_of_beq_eq_true hc.1
        have h2 := Nat.eq_of_beq_eq_true hc.2
        obtain ⟨d, hd, hw⟩ := hrd f a ha h2 (hf f (by simp))
        simp only [Ty.size] at hl
        obtain ⟨e, he, hw'⟩ := ih (off + P.cellsOf f.type) b hb (by omega) fun g hg => hf g (by simp [hg])
        refine ⟨(d, e), ⟨(cs.drop off).take (P.cellsOf f.type), cs.drop (off + P.cellsOf f.type), ?_, ?_, he⟩, hw, hw'⟩
        · rw [← List.drop_drop, List.take_append_drop]
        · rw [h1] at hd; exact hd
      · cases h
    · cases h
theorem trod_dat : ∀ (n : Nat) (t : TypeId) (ty : Ty) (fuel : Nat) (cs : List Value) (x : DataW H × List MemPlace), readTy P n t = some ty → DataW.trod enc P w 0 spare held fuel t cs = some x → ∃ d : ty.den, Dat w (below w) ty d cs ∧ wfD ty d := by
  intro n
  induction n with
  | zero => intro t ty fuel cs x h; cases h
  | succ n ih =>
    intro t ty fuel cs x h hx
    simp only [readTy] at h
    split at h
    · rename_i hu
      simp only [Option.some.injEq] at h; subst h
      obtain ⟨b, rfl, _⟩ := DataW.trod_bool hu hx
      exact ⟨b, rfl, trivial⟩
    · rename_i k hu
      simp only [Option.some.injEq] at h; subst h
      obtain ⟨m, rfl, _, hw⟩ := DataW.trod_int hu hx
      exact ⟨m, rfl, wf_int hw⟩
    · rename_i e hu
      split at h
      · rename_i a ha
        split at h
        · rename_i hc
          simp only [Option.some.injEq] at h; subst h
          rw [Bool.and_eq_true] at hc
          have hpos : a.size ≠ 0 := fun h0 => by rw [h0] at hc; simp at hc
          have hc := Nat.eq_of_beq_eq_true hc.1
          rcases DataW.trod_slice hu hx with ⟨rfl, _⟩ | ⟨ad, len, cap, elems, rest, m, rfl, rfl, _, _, hle, hmax, hlen, hel, _⟩
          · exact ⟨[], ⟨none, 0, rfl, Nat.le_refl _, fun hne => absurd rfl hne⟩, Nat.zero_le _, fun x hx => by cases hx⟩
          · -- each element
            have each : ∀ i, i < len → ∃ cs', w.cells? 0 (ad.add (i * P.cellsOf e)) (P.cellsOf e) = some cs' ∧ ∃ d : a.den, Dat w (below w) a d cs' ∧ wfD a d := by
              intro i hi
              have h1 := hel i hi
              rw [List.getElem?_eq_getElem (by omega), Option.bind_eq_some_iff] at h1
              obtain ⟨cs', h2, h3⟩ := h1
              exact ⟨cs', h2, ih e a m cs' _ ha h3⟩
            obtain ⟨f, hf⟩ := choose_lt' (α := List Value) (p := fun i cs' => w.cells? 0 (ad.add (i * P.cellsOf e)) (P.cellsOf e) = some cs' ∧ ∃ d : a.den, Dat w (below w) a d cs' ∧ wfD a d) each
            have hfl : ∀ i, i < len → (f i).length = a.size := by
              intro i hi
              obtain ⟨_, hl, _⟩ := World.cells?_some (hf i hi).1
              rw [hl, hc]
            obtain ⟨xs, h1, h2, h3⟩ := rows_of (R := fun (d : a.den) cs => Dat w (below w) a d cs ∧ wfD a d) (k := a.size) len f fun i hi => ⟨hfl i hi, (hf i hi).2⟩
            refine ⟨xs, ⟨some ad, cap, by rw [h1], by rw [h1]; exact hle, fun hne => ⟨ad, (List.range len).flatMap f, rfl, ?_, rows_mono (fun x _ cs hx => hx.1) h2, fun j u hu => ?_⟩⟩, by rw [h1]; exact Nat.le_trans hle hmax, fun x hx => ?_⟩
            · -- the block is there
              have hl0 : 0 < len := by
                rcases Nat.eq_zero_or_pos len with h0 | h0
                · exact absurd (List.eq_nil_of_length_eq_zero (by rw [h1, h0])) hne
                · exact h0
              have hb := World.cells?_block (hf 0 hl0).1 (by omega)
              rw [Nat.zero_mul] at hb
              have e0 : ad.add 0 = ad := by simp [Addr.add]
              rw [e0] at hb
              exact hb
            · obtain ⟨i, r, hi, hr, rfl, hur⟩ := flat_get len hfl j u hu
              obtain ⟨_, _, hcell⟩ := World.cells?_some (hf i hi).1
              have := hcell r (by rw [hc]; exact hr)
              rw [hur] at this
              rw [← this, hc, addr_add]
            · obtain ⟨i, _, hr⟩ := h3 x hx
              exact hr.2
        · cases h
      · cases h
    · rename_i c e hu
      split at h
      · rename_i a ha
        split at h
        · rename_i hc
          simp only [Option.some.injEq] at h; subst h
          rw [Bool.and_eq_true] at hc
          have hc1 := Nat.eq_of_beq_eq_true hc.1
          have hc2 := Nat.eq_of_beq_eq_true hc.2
          obtain ⟨xs, m, rfl, _, hl, hxs, hfs⟩ := DataW.trod_array hu hx
          rw [hc2] at hl
          obtain ⟨ys, h1, h2, h3⟩ := rows_of (R := fun (d : a.den) cs => Dat w (below w) a d cs ∧ wfD a d) (k := a.size) c (fun i => (cs.drop (i * a.size)).take a.size) fun i hi => by
            have hi1 : i * a.size + a.size ≤ c * a.size := by
              have := Nat.mul_le_mul_right a.size (show i + 1 ≤ c from hi)
              rwa [Nat.add_mul, Nat.one_mul] at this
            have h1 := hfs i hi
            rw [List.getElem?_eq_getElem (by omega), hc1] at h1
            exact ⟨by rw [List.length_take, List.length_drop, hl]; omega, ih e a m _ _ ha h1⟩
          have hjoin : ∀ k, k ≤ c → (List.range k).flatMap (fun i => (cs.drop (i * a.size)).take a.size) = cs.take (k * a.size) := by
            intro k
            induction k with
            | zero => intro _; simp
            | succ k ihk =>
              intro hk
              rw [List.range_succ, List.flatMap_append, ihk (by omega), Nat.add_mul, Nat.one_mul, List.take_add]
              simp
          rw [hjoin c (Nat.le_refl _), ← hl, List.take_length] at h2
          exact ⟨ys, ⟨h1, rows_mono (fun x _ cs hx => hx.1) h2⟩, h1, fun x hx => by obtain ⟨i, _, hr⟩ := h3 x hx; exact hr.2⟩
        · cases h
      · cases h
    · rename_i fs hu
      split at h
      · rename_i a ha
        split at h
        · rename_i hc
          simp only [Option.some.injEq] at h; subst h
          have hc := Nat.eq_of_beq_eq_true hc
          obtain ⟨xs, m, rfl, _, hl, hxs, hfs⟩ := DataW.trod_struct hu hx
          obtain ⟨d, hd, hw⟩ := readFs_dat (enc := enc) (w := w) (spare := spare) (held := held) (cs := cs) (fun f b hb _ ⟨y, hy⟩ => ih f.type b y.1 _ y.2 hb hy) fs.toList 0 _ ha (by rw [hl, hc]; omega) (fun f hf => by
            obtain ⟨i, hi⟩ := List.getElem?_of_mem hf
            have h1 := hfs i f (by simpa using hi)
            have hlt : i < xs.length := by rw [hxs]; simpa using lt_of_get' hi
            rw [List.getElem?_eq_getElem hlt] at h1
            exact ⟨(m, xs[i]), h1⟩)
          rw [List.drop_zero] at hd
          exact ⟨d, hd, hw⟩
        · cases h
      · cases h
    · cases h
theorem okWide_one {r : Reach} {b0 : Nat} {t : TypeId} {v : Value} (hval : Value.okWide P w r b0 t v) (hn : ∀ d, P.underlying t = some d → (match d with | .bool | .int _ | .slice _ => true | _ => false) = true) {ty : Ty} {n : Nat} (h : readTy P (n + 1) t = some ty) : v.cells.toList = [v] := by
  simp only [Value.okWide] at hval
  have hu : ∃ d, P.underlying t = some d := by
    cases hu : P.underlying t with
    | none => simp only [readTy, hu] at h; cases h
    | some d => exact ⟨d, rfl⟩
  obtain ⟨d, hu⟩ := hu
  have := hn d hu
  rw [hu] at hval
  cases d <;> simp only [Bool.false_eq_true] at this <;> simp only [Cell.okWide, hu] at hval <;> cases v <;> first | rfl | (simp_all [Cell.ok])
theorem trod_rep {r : Reach} {b0 : Nat} {t : TypeId} {v : Value} {ps : List MemPlace} {dd : DataW H} (hval : Value.okWide P w r b0 t v) (hd : DataW.Trod enc P w 0 spare held t v dd ps) {ty : Ty} {n : Nat} (h : readTy P (n + 1) t = some ty) :
    ∃ d : ty.den, RepD w (below w) ty d v ∧ wfD ty d := by
  obtain ⟨fuel, hf⟩ := hd
  obtain ⟨d, h1, h2⟩ := trod_dat (n + 1) t ty fuel _ _ h hf
  refine ⟨d, ?_, h2⟩
  have one : (∀ d, P.underlying t = some d → (match d with | .bool | .int _ | .slice _ => true | _ => false) = true) → ty.isAgg = false → RepD w (below w) ty d v := by
    intro hn hg
    unfold RepD
    rw [hg]
    rw [okWide_one hval hn h] at h1
    exact h1
  have agg : (∃ cs, v = .agg cs) → ty.isAgg = true → RepD w (below w) ty d v := by
    rintro ⟨cs, rfl⟩ hg
    unfold RepD
    rw [hg]
    exact ⟨cs, rfl, h1⟩
  have hu : ∃ d, P.underlying t = some d := by
    cases hu : P.underlying t with
    | none => simp only [readTy, hu] at h; cases h
    | some d => exact ⟨d, rfl⟩
  obtain ⟨td, hu⟩ := hu
  simp only [readTy, hu] at h
  split at h
  · rename_i hq; cases hq; simp only [Option.some.injEq] at h; subst h
    exact one (fun d hd => by rw [hu] at hd; cases hd; rfl) rfl
  · rename_i k hq; cases hq; simp only [Option.some.injEq] at h; subst h
    exact one (fun d hd => by rw [hu] at hd; cases hd; rfl) rfl
  · rename_i e hq; cases hq
    split at h
    · split at h
      · simp only [Option.some.injEq] at h; subst h
        exact one (fun d hd => by rw [hu] at hd; cases hd; rfl) rfl
      · cases h
    · cases h
  · rename_i c e hq; cases hq
    have hv : ∃ cs, v = .agg cs := by
      simp only [Value.okWide, hu] at hval
      obtain ⟨cs, rfl, _⟩ := hval
      exact ⟨cs, rfl⟩
    split at h
    · split at h
      · simp only [Option.some.injEq] at h; subst h
        exact agg hv rfl
      · cases h
    · cases h
  · rename_i fs hq; cases hq
    have hv : ∃ cs, v = .agg cs := by
      simp only [Value.okWide, hu] at hval
      obtain ⟨cs, rfl, _⟩ := hval
      exact ⟨cs, rfl⟩
    split at h
    · rename_i a ha
      split at h
      · simp only [Option.some.injEq] at h; subst h
        refine agg hv ?_
        cases hfs : fs.toList with
        | nil => rw [hfs] at ha; simp only [readFs, Option.some.injEq] at ha; subst ha; rfl
        | cons f r =>
          rw [hfs] at ha
          simp only [readFs] at ha
          split at ha
          · split at ha
            · simp only [Option.some.injEq] at ha; subst ha; rfl
            · cases ha
          · cases ha
      · cases h
    · cases h
  · cases h
theorem calls_of_spec {g : FuncId} {s : Spec} (hs : SpecOK P g s) {args : List AV} {b : Bool} {e : Eff} (hrun : s (AV × Eff) args [] [] 0 (fun v e => some (v, e)) = some (.data .bool b, e)) {vals : List Value}
    (hr : RepL w (below w) (fun _ => none) [] args vals) : Calls P g vals.toArray w fun en w' => en = .returned (.bool b) ∧ Below w.heap.size w w' := by
  obtain ⟨v, e', h1, _, _, h4⟩ := hs _ args [] [] 0 _ _ hrun
  simp only [Option.some.injEq, Prod.mk.injEq] at h1
  obtain ⟨rfl, rfl⟩ := h1
  have hi : HI w (below w) (fun _ => none) [] [] := ⟨fun id o h => by simp at h, fun i j b c b' c' h => by simp [owned] at h, fun i b c h => by simp [owned] at h, fun i T t xs b c h => by simp at h, fun b h => h, rfl⟩
  refine (h4 w _ _ vals hi hr).mono ?_
  rintro en w' ⟨u, rfl, F', m', ⟨hx, _⟩, hu⟩
  have hb : u = .bool b := rep_bool hu
  subst hb
  exact ⟨rfl, hx.os, hx.tape, hx.output, hx.size, fun i hi => hx.keep i hi fun j c ho _ => by simp [owned] at ho⟩
end
section
variable {H : Type} {enc : TypeId × Value → H} {P : Program}
theorem post_of_below {f : Func} {s : ChangeSpec} {apart fresh handsOn again : Bool} {W W' : World} {args : Array Value} {v : Value} {ds gs : List (DataW H)} {before pa pv : List MemPlace}
    (hW : DataW.Whole enc P f.params.toList s.vars apart W args.toList ds gs before)
    (hres : ∀ (b : Nat) (sp : Nat → Bool) (hd : Bool), DataW.TrodAll enc P W' b sp hd f.resultTypes.toList (v.resultList f.resultTypes.size) (s.fn H (ds ++ gs)).results [])
    (hargs : ∀ sp : Nat → Bool, (∀ p ∈ before, sp p.block = true) → DataW.TrodAll enc P W' 0 sp true f.params.toList args.toList (s.fn H (ds ++ gs)).args pa)
    (hvars : ∀ sp : Nat → Bool, (∀ p ∈ before, sp p.block = true) → DataW.TrodVars enc P W' sp s.vars (s.fn H (ds ++ gs)).vars pv)
    (hps : before = pa ++ pv) (hb : Below W.heap.size W W')
    (hok : ∀ (j : Nat) (t : TypeId) (r : Value), f.resultTypes[j]? = some t → (v.resultList f.resultTypes.size)[j]? = some r → Value.okWide P W' .any 0 t r) :
    s.post enc P f apart fresh handsOn again W args v W' := by
  have hlt : ∀ p ∈ before, p.block < W.heap.size := fun p hp => hW.lt p hp
  have hold : ∀ p ∈ before, (fun b => decide (b < W.heap.size)) p.block = true := fun p hp => by simpa using hlt p hp
  refine ⟨ds, gs, before, [], pa, pv, hW, hres _ _ _, hargs _ hold, hvars _ hold, World.keptBut_mono (fun p hp => ⟨hp, ?_⟩) (hb.frame (· ∈ before)), fun _ => ?_⟩
  · rw [hps, List.mem_append] at hp
    exact Or.inr hp
  · obtain ⟨_, _, _, _, _, hz, hn⟩ := hW
    refine ⟨hok, _, _, ([] ++ pa) ++ pv, ⟨[] ++ pa, pv, trodAll_append (hargs _ (fun _ _ => rfl)) (hres _ _ _), hvars _ (fun _ _ => rfl), rfl, ?_, ?_⟩, ?_⟩
    · intro b off hp
      have hin : MemPlace.cell b off ∈ before := by rw [hps]; simpa using hp
      rw [hb.frozen (hlt _ hin)]
      exact hz b off hin
    · intro ha
      have := hn ha
      rw [hps] at this
      simpa using this
    · intro p hp _
      rw [hps]
      simpa using hp
theorem trod_after {t : TypeId} (hl : laidOutB P = true) (hr : P.readableRec t = true) (hrow : t < P.types.size) {W W' : World} {v : Value} {d : DataW H} {ps : List MemPlace}
    (h : DataW.Trod enc P W 0 (fun _ => true) true t v d ps) (hb : Below W.heap.size W W') (hlt : ∀ x ∈ ps, x.block < W.heap.size) {sp : Nat → Bool} (hs : ∀ x ∈ ps, sp x.block = true) :
    DataW.Trod enc P W' 0 sp true t v d ps :=
  WideElems.Trod_stays hl hr hrow h (fun x hx => hb.same (hlt x hx)) hs
end
end Go.Pev
end
section
namespace Go.Pev
set_option maxRecDepth 100000
noncomputable section
attribute [local irreducible] fitsR fitsIR idxR sublR iltR ileR ieqR quoR remR shlR shrR cloneR iterO many IntKind.wrap dlen dset dget dapp dtake dcut drep dnat dclear imin imax lookupM storeM
-- archipelago/archipelagoref01.Ints
abbrev ints01_i : Items := [(.tmp 0, .dat (.slice (.int .i64))), (.tmp 1, .dat (.slice (.int .i64)))]
abbrev ints01_o : Items := [(.tmp 0, .dat .bool)]
abbrev ints01_r : List RS := [.one]
abbrev ints01_i0 : Items := [(.tmp 0, .dat (.slice (.int .i64))), (.tmp 1, .dat (.slice (.int .i64))), (.tmp 5, .di)]
abbrev ints01_o0 : Outs := [(.ret, [(.tmp 4, .dat .bool)]), (.exit 0, [])]
def ints01_s0 [Lk] : (List Int × List Int × Int × Unit) → Option ((List Int × List Int × Int × Unit) ⊕ (Bool × Unit) ⊕ (Unit) ⊕ Unit) := fun (a0, a1, a2, _) =>
 match (ilt a2 (dlen a0)) with
 | true => match idx a0 a2 with
  | none => none
  | some x0 => match idx a1 a2 with
   | none => none
   | some x1 => match (!(ieq x0 x1)) with
    | true => some (.inr (.inl (false, ())))
    | false => some (.inl (a0, a1, (IntKind.wrap .i64 (a2 + 1)), ()))
 | false => some (.inr (.inr (.inl ())))
def ints01_d [Lk] : (List Int × List Int × Unit) → Option ((Bool × Unit)) := fun (a0, a1, _) =>
 match (!(ieq (dlen a0) (dlen a1))) with
 | true => some (false, ())
 | false => match iterL ints01_s0 many (a0, a1, 0, ()) with
  | none => none
  | some r => match r with
   | .inl (o0, _) => some (o0, ())
   | .inr r => match r with
    | .inl _ => some (true, ())
    | .inr _ => none
def ints01 [Lk] := fun v => Lk.f (ints01_d v)
theorem ints01_eq v : ints01 v = ints01_d v := lock_eq _
-- archipelago/archipelagolaw27.great
abbrev great27_i : Items := [(.tmp 0, .dat (.prod (.int .i64) (.prod (.slice (.prod (.int .i64) (.prod (.int .i64) (.prod (.int .i64) (.prod .bool .unit))))) .unit)))]
abbrev great27_o : Items := [(.tmp 0, .dat .bool)]
abbrev great27_r : List RS := [.one]
def great27_d [Lk] : ((Int × (List (Int × Int × Int × Bool × Unit)) × Unit) × Unit) → Option ((Bool × Unit)) := fun (a0, _) =>
 match (ilt 40 (dlen a0.2.1)) with
 | true => some (true, ())
 | false => some ((ilt 12 a0.1), ())
def great27 [Lk] := fun v => Lk.f (great27_d v)
theorem great27_eq v : great27 v = great27_d v := lock_eq _
-- archipelago/tour.sized
abbrev tsized_i : Items := [(.tmp 0, .di)]
abbrev tsized_o : Items := [(.tmp 0, .dat .bool)]
abbrev tsized_r : List RS := [.one]
def tsized_d [Lk] : (Int × Unit) → Option ((Bool × Unit)) := fun (a0, _) =>
 match (ile 1 a0) with
 | true => some ((ile a0 64), ())
 | false => some (false, ())
def tsized [Lk] := fun v => Lk.f (tsized_d v)
theorem tsized_eq v : tsized v = tsized_d v := lock_eq _
-- archipelago/tour.in
abbrev tin_i : Items := [(.tmp 0, .di), (.tmp 1, .di)]
abbrev tin_o : Items := [(.tmp 0, .dat .bool)]
abbrev tin_r : List RS := [.one]
def tin_d [Lk] : (Int × Int × Unit) → Option ((Bool × Unit)) := fun (a0, a1, _) =>
 match tsized (a0, ()) with
 | none => none
 | some (y0, _) => match y0 with
  | true => match (ile 0 a1) with
   | true => some ((ilt a1 a0), ())
   | false => some (false, ())
  | false => some (false, ())
def tin [Lk] := fun v => Lk.f (tin_d v)
theorem tin_eq v : tin v = tin_d v := lock_eq _
-- archipelago/tour.Arc
abbrev tarc_i : Items := [(.tmp 0, .di), (.tmp 1, .di), (.tmp 2, .di)]
abbrev tarc_o : Items := [(.tmp 0, .di)]
abbrev tarc_r : List RS := [.one]
def tarc_d [Lk] : (Int × Int × Int × Unit) → Option ((Int × Unit)) := fun (a0, a1, a2, _) =>
 match (ieq a1 a2) with
 | true => some ((-1 : Int), ())
 | false => match tin (a0, a1, ()) with
  | none => none
  | some (y0, _) => match (!y0) with
   | true => some ((-1 : Int), ())
   | false => match tin (a0, a2, ()) with
    | none => none
    | some (y1, _) => match (!y1) with
     | true => some ((-1 : Int), ())
     | false => some ((IntKind.wrap .i64 ((IntKind.wrap .i64 (a0 * (IntKind.wrap .i64 (a1 + 1)))) + a2)), ())
def tarc [Lk] := fun v => Lk.f (tarc_d v)
theorem tarc_eq v : tarc v = tarc_d v := lock_eq _
-- archipelago/tour.Token
abbrev ttoken_i : Items := [(.tmp 0, .di), (.tmp 1, .di)]
abbrev ttoken_o : Items := [(.tmp 0, .di), (.tmp 1, .di), (.tmp 2, .dat .bool), (.tmp 3, .dat .bool)]
abbrev ttoken_r : List RS := [.one, .one, .one, .one]
def ttoken_d [Lk] : (Int × Int × Unit) → Option ((Int × Int × Bool × Bool × Unit)) := fun (a0, a1, _) =>
 match tsized (a0, ()) with
 | none => none
 | some (y0, _) => match (!y0) with
  | true => some (0, 0, false, false, ())
  | false => match (ilt a1 0) with
   | true => some (0, 0, false, false, ())
   | false => match (ile (IntKind.wrap .i64 (a0 * (IntKind.wrap .i64 (a0 + 1)))) a1) with
    | true => some (0, 0, false, false, ())
    | false => match (ilt a1 a0) with
     | true => some (a1, 0, false, true, ())
     | false => match quo? .i64 a1 a0 with
      | none => none
      | some x1 => match rem? a1 a0 with
       | none => none
       | some x2 => match (ieq (IntKind.wrap .i64 (x1 - 1)) x2) with
        | true => some (0, 0, false, false, ())
        | false => some ((IntKind.wrap .i64 (x1 - 1)), x2, true, true, ())
def ttoken [Lk] := fun v => Lk.f (ttoken_d v)
theorem ttoken_eq v : ttoken v = ttoken_d v := lock_eq _
-- archipelago/tour.Make
abbrev tmake_i : Items := [(.tmp 0, .di)]
abbrev tmake_o : Items := [(.tmp 0, .di), (.tmp 1, .own 28 (.slice (.int .i64))), (.tmp 2, .di)]
abbrev tmake_r : List RS := [.agg 2, .one]
abbrev tmake_i0 : Items := [(.tmp 2, .box 2), (.cell 0 0, .di), (.cell 0 1, .nil (.slice (.int .i64))), (.tmp 4, .box 2), (.cell 1 0, .di), (.cell 1 1, .own 28 (.slice (.int .i64))), (.tmp 12, .di), (.tmp 13, .di)]
abbrev tmake_o0 : Outs := [(.exit 0, [(.tmp 2, .box 2), (.cell 0 0, .di), (.cell 0 1, .nil (.slice (.int .i64))), (.tmp 4, .box 2), (.cell 1 0, .di), (.cell 1 1, .own 28 (.slice (.int .i64)))])]
def tmake_s0 [Lk] : (Int × Int × List (List Int) × Int × Int × Unit) → Option ((Int × Int × List (List Int) × Int × Int × Unit) ⊕ (Int × Int × List (List Int) × Unit) ⊕ Unit) := fun (a0, a1, a2, a3, a4, _) =>
 match (ilt a4 a3) with
 | true => match (fits ((dlen a2) + (dlen ([([a4] : List (Int))] : List (List Int))))) with
  | true => some (.inl (a0, a1, (dapp a2 ([([a4] : List (Int))] : List (List Int))), a3, (IntKind.wrap .i64 (a4 + 1)), ()))
  | false => none
 | false => some (.inr (.inl (a0, a1, a2, ())))
def tmake_d [Lk] : (Int × Unit) → Option ((Int × List (List Int) × Int × Unit)) := fun (a0, _) =>
 match tsized (a0, ()) with
 | none => none
 | some (y0, _) => match (!y0) with
  | true => some (0, ([] : List (List Int)), 1, ())
  | false => match iterL tmake_s0 many (0, a0, ([] : List (List Int)), a0, 0, ()) with
   | none => none
   | some r => match r with
    | .inl (o1, o2, o3, _) => some (o2, o3, 0, ())
    | .inr _ => none
def tmake [Lk] := fun v => Lk.f (tmake_d v)
theorem tmake_eq v : tmake v = tmake_d v := lock_eq _
-- slices.Index[[]int,int]
abbrev indexI_i : Items := [(.tmp 0, .dat (.slice (.int .i64))), (.tmp 1, .di)]
abbrev indexI_o : Items := [(.tmp 0, .di)]
abbrev indexI_r : List RS := [.one]
abbrev indexI_i0 : Items := [(.tmp 0, .dat (.slice (.int .i64))), (.tmp 1, .di), (.tmp 7, .di), (.tmp 8, .di)]
abbrev indexI_o0 : Outs := [(.ret, [(.tmp 4, .di)]), (.exit 0, [])]
def indexI_s0 [Lk] : (List Int × Int × Int × Int × Unit) → Option ((List Int × Int × Int × Int × Unit) ⊕ (Int × Unit) ⊕ (Unit) ⊕ Unit) := fun (a0, a1, a2, a3, _) =>
 match (ilt a3 a2) with
 | true => match idx a0 a3 with
  | none => none
  | some x0 => match (ieq a1 x0) with
   | true => some (.inr (.inl (a3, ())))
   | false => some (.inl (a0, a1, a2, (IntKind.wrap .i64 (a3 + 1)), ()))
 | false => some (.inr (.inr (.inl ())))
def indexI_d [Lk] : (List Int × Int × Unit) → Option ((Int × Unit)) := fun (a0, a1, _) =>
 match iterL indexI_s0 many (a0, a1, (dlen a0), 0, ()) with
 | none => none
 | some r => match r with
  | .inl (o0, _) => some (o0, ())
  | .inr r => match r with
   | .inl _ => some ((-1 : Int), ())
   | .inr _ => none
def indexI [Lk] := fun v => Lk.f (indexI_d v)
theorem indexI_eq v : indexI v = indexI_d v := lock_eq _
-- slices.Contains[[]int,int]
abbrev containsI_i : Items := [(.tmp 0, .dat (.slice (.int .i64))), (.tmp 1, .di)]
abbrev containsI_o : Items := [(.tmp 0, .dat .bool)]
abbrev containsI_r : List RS := [.one]
def containsI_d [Lk] : (List Int × Int × Unit) → Option ((Bool × Unit)) := fun (a0, a1, _) =>
 match indexI (a0, a1, ()) with
 | none => none
 | some (y0, _) => some ((ile 0 y0), ())
def containsI [Lk] := fun v => Lk.f (containsI_d v)
theorem containsI_eq v : containsI v = containsI_d v := lock_eq _
-- slices.Min[[]int,int]
abbrev minI_i : Items := [(.tmp 0, .dat (.slice (.int .i64)))]
abbrev minI_o : Items := [(.tmp 0, .di)]
abbrev minI_r : List RS := [.one]
abbrev minI_i0 : Items := [(.tmp 0, .dat (.slice (.int .i64))), (.tmp 3, .di), (.tmp 4, .di)]
abbrev minI_o0 : Outs := [(.exit 0, [(.tmp 3, .di)])]
def minI_s0 [Lk] : (List Int × Int × Int × Unit) → Option ((List Int × Int × Int × Unit) ⊕ (Int × Unit) ⊕ Unit) := fun (a0, a1, a2, _) =>
 match (ilt a2 (dlen a0)) with
 | true => match idx a0 a2 with
  | none => none
  | some x0 => some (.inl (a0, (imin a1 x0), (IntKind.wrap .i64 (a2 + 1)), ()))
 | false => some (.inr (.inl (a1, ())))
def minI_d [Lk] : (List Int × Unit) → Option ((Int × Unit)) := fun (a0, _) =>
 match (ilt (dlen a0) 1) with
 | true => none
 | false => match idx a0 0 with
  | none => none
  | some x0 => match iterL minI_s0 many (a0, x0, 1, ()) with
   | none => none
   | some r => match r with
    | .inl (o1, _) => some (o1, ())
    | .inr _ => none
def minI [Lk] := fun v => Lk.f (minI_d v)
theorem minI_eq v : minI v = minI_d v := lock_eq _
-- slices.Grow[[]int,int]
abbrev growI_i : Items := [(.tmp 0, .nil (.int .i64)), (.tmp 1, .di)]
abbrev growI_o : Items := [(.tmp 0, .own 3 (.int .i64))]
abbrev growI_r : List RS := [.one]
def growI_d [Lk] : (Int × Unit) → Option ((List Int × Unit)) := fun (a0, _) =>
 match (ilt a0 0) with
 | true => none
 | false => match (ilt 0 (IntKind.wrap .i64 (a0 - (IntKind.wrap .i64 (0 - 0))))) with
  | true => match subl ([] : List Unit) 0 0 with
   | none => none
   | some _u0 => match (fitsI (IntKind.wrap .i64 (a0 - (IntKind.wrap .i64 (0 - 0))))) with
    | true => match subl (drep (dnat (IntKind.wrap .i64 (a0 - (IntKind.wrap .i64 ((0 : Int) - (0 : Int)))))) (0 : Int)) (0 : Int) (0 : Int) with
     | none => none
     | some x1 => some ((dtake (dnat (dlen x1)) (drep (dnat (IntKind.wrap .i64 (a0 - (IntKind.wrap .i64 ((0 : Int) - (0 : Int)))))) (0 : Int))), ())
    | false => none
  | false => some (([] : List (Int)), ())
def growI [Lk] := fun v => Lk.f (growI_d v)
theorem growI_eq v : growI v = growI_d v := lock_eq _
-- slices.Concat[[]int,int]
abbrev concatI_i : Items := [(.tmp 0, .dat (.slice (.slice (.int .i64))))]
abbrev concatI_o : Items := [(.tmp 0, .own 3 (.int .i64))]
abbrev concatI_r : List RS := [.one]
abbrev concatI_i1 : Items := [(.tmp 6, .own 3 (.int .i64)), (.tmp 25, .dat (.slice (.slice (.int .i64)))), (.tmp 26, .di), (.tmp 27, .di)]
abbrev concatI_o1 : Outs := [(.exit 2, [(.tmp 6, .own 3 (.int .i64))])]
def concatI_s1 [Lk] : (List Int × List (List Int) × Int × Int × Unit) → Option ((List Int × List (List Int) × Int × Int × Unit) ⊕ (List Int × Unit) ⊕ Unit) := fun (a0, a1, a2, a3, _) =>
 match (ilt a3 a2) with
 | true => match idx a1 a3 with
  | none => none
  | some x0 => match (fits ((dlen a0) + (dlen x0))) with
   | true => some (.inl ((dapp a0 x0), a1, a2, (IntKind.wrap .i64 (a3 + 1)), ()))
   | false => none
 | false => some (.inr (.inl (a0, ())))
abbrev concatI_i0 : Items := [(.tmp 0, .dat (.slice (.slice (.int .i64)))), (.tmp 3, .di), (.tmp 9, .dat (.slice (.slice (.int .i64)))), (.tmp 10, .di), (.tmp 11, .di)]
abbrev concatI_o0 : Outs := [(.exit 0, [(.tmp 0, .dat (.slice (.slice (.int .i64)))), (.tmp 3, .di)])]
def concatI_s0 [Lk] : (List (List Int) × Int × List (List Int) × Int × Int × Unit) → Option ((List (List Int) × Int × List (List Int) × Int × Int × Unit) ⊕ (List (List Int) × Int × Unit) ⊕ Unit) := fun (a0, a1, a2, a3, a4, _) =>
 match (ilt a4 a3) with
 | true => match idx a2 a4 with
  | none => none
  | some x0 => match (ilt (IntKind.wrap .i64 (a1 + (dlen x0))) 0) with
   | true => none
   | false => some (.inl (a0, (IntKind.wrap .i64 (a1 + (dlen x0))), a2, a3, (IntKind.wrap .i64 (a4 + 1)), ()))
 | false => some (.inr (.inl (a0, a1, ())))
def concatI_d [Lk] : (List (List Int) × Unit) → Option ((List Int × Unit)) := fun (a0, _) =>
 match iterL concatI_s0 many (a0, 0, a0, (dlen a0), 0, ()) with
 | none => none
 | some r => match r with
  | .inl (o0, o1, _) => match growI (o1, ()) with
   | none => none
   | some (y2, _) => match iterL concatI_s1 many (y2, o0, (dlen o0), 0, ()) with
    | none => none
    | some r => match r with
     | .inl (o3, _) => some (o3, ())
     | .inr _ => none
  | .inr _ => none
def concatI [Lk] := fun v => Lk.f (concatI_d v)
theorem concatI_eq v : concatI v = concatI_d v := lock_eq _
-- slices.IndexFunc[[]int,int]
abbrev idxFuncI_odd_i : Items := [(.tmp 0, .dat (.slice (.int .i64))), (.tmp 1, .clo 90 [])]
abbrev idxFuncI_odd_o : Items := [(.tmp 0, .di)]
abbrev idxFuncI_odd_r : List RS := [.one]
abbrev idxFuncI_odd_i0 : Items := [(.tmp 0, .dat (.slice (.int .i64))), (.tmp 1, .clo 90 []), (.tmp 7, .di), (.tmp 8, .di)]
abbrev idxFuncI_odd_o0 : Outs := [(.ret, [(.tmp 4, .di)]), (.exit 0, [])]
def idxFuncI_odd_s0 [Lk] : (List Int × Int × Int × Unit) → Option ((List Int × Int × Int × Unit) ⊕ (Int × Unit) ⊕ (Unit) ⊕ Unit) := fun (a0, a1, a2, _) =>
 match (ilt a2 a1) with
 | true => match idx a0 a2 with
  | none => none
  | some x0 => match (ilt x0 0) with
   | true => some (.inr (.inl (a2, ())))
   | false => match (ilt 10000 x0) with
    | true => some (.inr (.inl (a2, ())))
    | false => some (.inl (a0, a1, (IntKind.wrap .i64 (a2 + 1)), ()))
 | false => some (.inr (.inr (.inl ())))
def idxFuncI_odd_d [Lk] : (List Int × Unit) → Option ((Int × Unit)) := fun (a0, _) =>
 match iterL idxFuncI_odd_s0 many (a0, (dlen a0), 0, ()) with
 | none => none
 | some r => match r with
  | .inl (o0, _) => some (o0, ())
  | .inr r => match r with
   | .inl _ => some ((-1 : Int), ())
   | .inr _ => none
def idxFuncI_odd [Lk] := fun v => Lk.f (idxFuncI_odd_d v)
theorem idxFuncI_odd_eq v : idxFuncI_odd v = idxFuncI_odd_d v := lock_eq _
-- slices.ContainsFunc[[]int,int]
abbrev contFuncI_odd_i : Items := [(.tmp 0, .dat (.slice (.int .i64))), (.tmp 1, .clo 90 [])]
abbrev contFuncI_odd_o : Items := [(.tmp 0, .dat .bool)]
abbrev contFuncI_odd_r : List RS := [.one]
def contFuncI_odd_d [Lk] : (List Int × Unit) → Option ((Bool × Unit)) := fun (a0, _) =>
 match idxFuncI_odd (a0, ()) with
 | none => none
 | some (y0, _) => some ((ile 0 y0), ())
def contFuncI_odd [Lk] := fun v => Lk.f (contFuncI_odd_d v)
theorem contFuncI_odd_eq v : contFuncI_odd v = contFuncI_odd_d v := lock_eq _
-- archipelago/ring.once[int]
abbrev once_i : Items := [(.tmp 0, .dat (.slice (.int .i64)))]
abbrev once_o : Items := [(.tmp 0, .dat .bool)]
abbrev once_r : List RS := [.one]
abbrev once_i0 : Items := [(.tmp 0, .dat (.slice (.int .i64))), (.tmp 3, .map (.int .i64) (.int .i64)), (.tmp 7, .dat (.slice (.int .i64))), (.tmp 8, .di), (.tmp 9, .di)]
abbrev once_o0 : Outs := [(.exit 0, [(.tmp 0, .dat (.slice (.int .i64))), (.tmp 3, .map (.int .i64) (.int .i64))])]
def once_s0 [Lk] : (List Int × List (Int × Int) × List Int × Int × Int × Unit) → Option ((List Int × List (Int × Int) × List Int × Int × Int × Unit) ⊕ (List Int × List (Int × Int) × Unit) ⊕ Unit) := fun (a0, a1, a2, a3, a4, _) =>
 match (ilt a4 a3) with
 | true => match idx a2 a4 with
  | none => none
  | some x0 => some (.inl (a0, (storeM a1 x0 (IntKind.wrap .i64 (((lookupM a1 x0).getD 0) + 1))), a2, a3, (IntKind.wrap .i64 (a4 + 1)), ()))
 | false => some (.inr (.inl (a0, a1, ())))
def once_d [Lk] : (List Int × Unit) → Option ((Bool × Unit)) := fun (a0, _) =>
 match iterL once_s0 many (a0, ([] : List (Int × Int)), a0, (dlen a0), 0, ()) with
 | none => none
 | some r => match r with
  | .inl (o0, o1, _) => some ((ieq (dlen o1) (dlen o0)), ())
  | .inr _ => none
def once [Lk] := fun v => Lk.f (once_d v)
theorem once_eq v : once v = once_d v := lock_eq _
-- archipelago/ring.Right
abbrev rright_i : Items := [(.tmp 0, .dat (.slice (.int .i64)))]
abbrev rright_o : Items := [(.tmp 0, .dat .bool)]
abbrev rright_r : List RS := [.one]
def rright_d [Lk] : (List Int × Unit) → Option ((Bool × Unit)) := fun (a0, _) =>
 match (ilt 1000 (dlen a0)) with
 | true => some (false, ())
 | false => match contFuncI_odd (a0, ()) with
  | none => none
  | some (y0, _) => match (!y0) with
   | true => match once (a0, ()) with
    | none => none
    | some (y1, _) => some (y1, ())
   | false => some (false, ())
def rright [Lk] := fun v => Lk.f (rright_d v)
theorem rright_eq v : rright v = rright_d v := lock_eq _
-- archipelago/ring.turned
abbrev turned_i : Items := [(.tmp 0, .dat (.slice (.int .i64))), (.tmp 1, .di)]
abbrev turned_o : Items := [(.tmp 0, .own 3 (.int .i64))]
abbrev turned_r : List RS := [.one]
def turned_d [Lk] : (List Int × Int × Unit) → Option ((List Int × Unit)) := fun (a0, a1, _) =>
 match subl a0 a1 (dlen a0) with
 | none => none
 | some x0 => match subl a0 0 a1 with
  | none => none
  | some x1 => match concatI (([x0, x1] : List (List Int)), ()) with
   | none => none
   | some (y2, _) => some (y2, ())
def turned [Lk] := fun v => Lk.f (turned_d v)
theorem turned_eq v : turned v = turned_d v := lock_eq _
-- archipelago/ring.places
abbrev places_i : Items := [(.tmp 0, .dat (.slice (.int .i64))), (.tmp 1, .dat (.slice (.int .i64)))]
abbrev places_o : Items := [(.tmp 0, .own 3 (.int .i64)), (.tmp 1, .dat .bool)]
abbrev places_r : List RS := [.one, .one]
abbrev places_i0 : Items := [(.tmp 0, .dat (.slice (.int .i64))), (.tmp 6, .own 3 (.int .i64)), (.tmp 12, .dat (.slice (.int .i64))), (.tmp 13, .di), (.tmp 14, .di)]
abbrev places_o0 : Outs := [(.exit 0, [(.tmp 6, .own 3 (.int .i64))])]
def places_s0 [Lk] : (List Int × List Int × List Int × Int × Int × Unit) → Option ((List Int × List Int × List Int × Int × Int × Unit) ⊕ (List Int × Unit) ⊕ Unit) := fun (a0, a1, a2, a3, a4, _) =>
 match (ilt a4 a3) with
 | true => match idx a2 a4 with
  | none => none
  | some x0 => match indexI (a0, x0, ()) with
   | none => none
   | some (y1, _) => match (fits ((dlen a1) + (dlen ([y1] : List (Int))))) with
    | true => some (.inl (a0, (dapp a1 ([y1] : List (Int))), a2, a3, (IntKind.wrap .i64 (a4 + 1)), ()))
    | false => none
 | false => some (.inr (.inl (a1, ())))
def places_d [Lk] : (List Int × List Int × Unit) → Option ((List Int × Bool × Unit)) := fun (a0, a1, _) =>
 match rright (a0, ()) with
 | none => none
 | some (y0, _) => match (!y0) with
  | true => some (([] : List (Int)), false, ())
  | false => match iterL places_s0 many (a0, ([] : List (Int)), a1, (dlen a1), 0, ()) with
   | none => none
   | some r => match r with
    | .inl (o1, _) => match containsI (o1, (-1 : Int), ()) with
     | none => none
     | some (y2, _) => some (o1, (!y2), ())
    | .inr _ => none
def places [Lk] := fun v => Lk.f (places_d v)
theorem places_eq v : places v = places_d v := lock_eq _
-- archipelago/ring.From
abbrev rfrom_i : Items := [(.tmp 0, .dat (.slice (.int .i64))), (.tmp 1, .di)]
abbrev rfrom_o : Items := [(.tmp 0, .own 3 (.int .i64)), (.tmp 1, .dat .bool)]
abbrev rfrom_r : List RS := [.one, .one]
def rfrom_d [Lk] : (List Int × Int × Unit) → Option ((List Int × Bool × Unit)) := fun (a0, a1, _) =>
 match places (a0, ([a1] : List (Int)), ()) with
 | none => none
 | some (y0, y1, _) => match (!y1) with
  | true => some (([] : List (Int)), false, ())
  | false => match idx y0 0 with
   | none => none
   | some x2 => match turned (a0, (dget y0 0 0), ()) with
    | none => none
    | some (y3, _) => some (y3, true, ())
def rfrom [Lk] := fun v => Lk.f (rfrom_d v)
theorem rfrom_eq v : rfrom v = rfrom_d v := lock_eq _
-- archipelago/ring.Plain
abbrev rplain_i : Items := [(.tmp 0, .dat (.slice (.int .i64)))]
abbrev rplain_o : Items := [(.tmp 0, .own 3 (.int .i64))]
abbrev rplain_r : List RS := [.one]
def rplain_d [Lk] : (List Int × Unit) → Option ((List Int × Unit)) := fun (a0, _) =>
 match rright (a0, ()) with
 | none => none
 | some (y0, _) => match (!y0) with
  | true => some (([] : List (Int)), ())
  | false => match (ieq (dlen a0) 0) with
   | true => some (([] : List (Int)), ())
   | false => match minI (a0, ()) with
    | none => none
    | some (y1, _) => match indexI (a0, y1, ()) with
     | none => none
     | some (y2, _) => match turned (a0, y2, ()) with
      | none => none
      | some (y3, _) => some (y3, ())
def rplain [Lk] := fun v => Lk.f (rplain_d v)
theorem rplain_eq v : rplain v = rplain_d v := lock_eq _
-- slices.IndexFunc[[][]int,[]int]
abbrev idxFuncL_place_i : Items := [(.tmp 0, .dat (.slice (.slice (.int .i64)))), (.cap 1 0, .box 1), (.cell 0 0, .di), (.tmp 1, .clo 78 [(0, 0)])]
abbrev idxFuncL_place_o : Items := [(.obj 0, .box 1), (.cell 0 0, .di), (.tmp 0, .di)]
abbrev idxFuncL_place_r : List RS := [.one]
abbrev idxFuncL_place_i0 : Items := [(.obj 0, .box 1), (.cell 0 0, .di), (.tmp 0, .dat (.slice (.slice (.int .i64)))), (.tmp 1, .clo 78 [(0, 0)]), (.tmp 7, .di), (.tmp 8, .di)]
abbrev idxFuncL_place_o0 : Outs := [(.ret, [(.obj 0, .box 1), (.cell 0 0, .di), (.tmp 4, .di)]), (.exit 0, [(.obj 0, .box 1), (.cell 0 0, .di)])]
def idxFuncL_place_s0 [Lk] : (Int × List (List Int) × Int × Int × Unit) → Option ((Int × List (List Int) × Int × Int × Unit) ⊕ (Int × Int × Unit) ⊕ (Int × Unit) ⊕ Unit) := fun (a0, a1, a2, a3, _) =>
 match (ilt a3 a2) with
 | true => match idx a1 a3 with
  | none => none
  | some x0 => match containsI (x0, a0, ()) with
   | none => none
   | some (y1, _) => match y1 with
    | true => some (.inr (.inl (a0, a3, ())))
    | false => some (.inl (a0, a1, a2, (IntKind.wrap .i64 (a3 + 1)), ()))
 | false => some (.inr (.inr (.inl (a0, ()))))
def idxFuncL_place_d [Lk] : (List (List Int) × Int × Unit) → Option ((Int × Int × Unit)) := fun (a0, a1, _) =>
 match iterL idxFuncL_place_s0 many (a1, a0, (dlen a0), 0, ()) with
 | none => none
 | some r => match r with
  | .inl (o0, o1, _) => some (o0, o1, ())
  | .inr r => match r with
   | .inl (o2, _) => some (o2, (-1 : Int), ())
   | .inr _ => none
def idxFuncL_place [Lk] := fun v => Lk.f (idxFuncL_place_d v)
theorem idxFuncL_place_eq v : idxFuncL_place v = idxFuncL_place_d v := lock_eq _
-- archipelago/tour.place
abbrev tplace_i : Items := [(.tmp 0, .dat (.prod (.int .i64) (.prod (.slice (.slice (.int .i64))) .unit))), (.tmp 1, .di)]
abbrev tplace_o : Items := [(.tmp 0, .di)]
abbrev tplace_r : List RS := [.one]
def tplace_d [Lk] : ((Int × (List (List Int)) × Unit) × Int × Unit) → Option ((Int × Unit)) := fun (a0, a1, _) =>
 match idxFuncL_place (a0.2.1, a1, ()) with
 | none => none
 | some (y0, y1, _) => some (y1, ())
def tplace [Lk] := fun v => Lk.f (tplace_d v)
theorem tplace_eq v : tplace v = tplace_d v := lock_eq _
-- archipelago/tour.goes
abbrev goes_i : Items := [(.tmp 0, .di), (.tmp 1, .dat (.slice (.int .i64)))]
abbrev goes_o : Items := [(.tmp 0, .dat .bool)]
abbrev goes_r : List RS := [.one]
abbrev goes_i0 : Items := [(.tmp 0, .di), (.tmp 5, .box 3), (.cell 0 0, .own 3 (.int .i64)), (.cell 0 1, .map (.int .i64) (.int .i64)), (.cell 0 2, .map (.int .i64) (.int .i64)), (.tmp 30, .dat (.slice (.int .i64))), (.tmp 31, .di), (.tmp 32, .di)]
abbrev goes_o0 : Outs := [(.ret, [(.tmp 4, .dat .bool)]), (.exit 0, [(.tmp 5, .box 3), (.cell 0 0, .own 3 (.int .i64)), (.cell 0 1, .map (.int .i64) (.int .i64)), (.cell 0 2, .map (.int .i64) (.int .i64))])]
def goes_s0 [Lk] : (Int × List Int × List (Int × Int) × List (Int × Int) × List Int × Int × Int × Unit) → Option ((Int × List Int × List (Int × Int) × List (Int × Int) × List Int × Int × Int × Unit) ⊕ (Bool × Unit) ⊕ (List Int × List (Int × Int) × List (Int × Int) × Unit) ⊕ Unit) := fun (a0, a1, a2, a3, a4, a5, a6, _) =>
 match (ilt a6 a5) with
 | true => match idx a4 a6 with
  | none => none
  | some x0 => match ttoken (a0, x0, ()) with
   | none => none
   | some (y1, y2, y3, y4, _) => match (!y4) with
    | true => some (.inr (.inl (false, ())))
    | false => match y3 with
     | true => match idx a1 (IntKind.wrap .i64 ((dlen a1) - 1)) with
      | none => none
      | some x5 => match (!(ieq (dget a1 (dnat (IntKind.wrap .i64 ((dlen a1) - 1))) 0) y1)) with
       | true => some (.inr (.inl (false, ())))
       | false => match (ilt 0 (IntKind.wrap .i64 ((dlen a1) - 1))) with
        | true => match idx a1 (IntKind.wrap .i64 ((IntKind.wrap .i64 ((dlen a1) - 1)) - 1)) with
         | none => none
         | some x6 => match (ieq (dget a1 (dnat (IntKind.wrap .i64 ((IntKind.wrap .i64 ((dlen a1) - 1)) - 1))) 0) y2) with
          | true => match subl a1 0 (IntKind.wrap .i64 ((dlen a1) - 1)) with
           | none => none
           | some x7 => match (!y3) with
            | true => match idx (dcut 0 (dnat (dlen x7)) a1) (IntKind.wrap .i64 ((((dnat (dlen x7)) : Nat) : Int) - 1)) with
             | none => none
             | some x8 => match (!(ieq (dget a1 (0 + (dnat (IntKind.wrap .i64 ((((dnat (dlen x7)) : Nat) : Int) - 1)))) 0) y1)) with
              | true => some (.inr (.inl (false, ())))
              | false => match (!y3) with
               | true => some (.inl (a0, (dtake (dnat (dlen x7)) a1), a2, (storeM a3 y1 (IntKind.wrap .i64 (((lookupM a3 y1).getD 0) + 1))), a4, a5, (IntKind.wrap .i64 (a6 + 1)), ()))
               | false => some (.inl (a0, (dtake (dnat (dlen x7)) a1), a2, a3, a4, a5, (IntKind.wrap .i64 (a6 + 1)), ()))
            | false => match (!y3) with
             | true => some (.inl (a0, (dtake (dnat (dlen x7)) a1), a2, (storeM a3 y1 (IntKind.wrap .i64 (((lookupM a3 y1).getD 0) + 1))), a4, a5, (IntKind.wrap .i64 (a6 + 1)), ()))
             | false => some (.inl (a0, (dtake (dnat (dlen x7)) a1), a2, a3, a4, a5, (IntKind.wrap .i64 (a6 + 1)), ()))
          | false => match (ilt 0 ((lookupM a2 y2).getD 0)) with
           | true => some (.inr (.inl (false, ())))
           | false => match (fits ((dlen a1) + (dlen ([y2] : List (Int))))) with
            | true => match (!y3) with
             | true => match idx (dapp a1 ([y2] : List (Int))) (IntKind.wrap .i64 ((dlen (dapp a1 ([y2] : List (Int)))) - 1)) with
              | none => none
              | some x9 => match (!(ieq (dget (dapp a1 ([y2] : List (Int))) (dnat (IntKind.wrap .i64 ((dlen (dapp a1 ([y2] : List (Int)))) - 1))) 0) y1)) with
               | true => some (.inr (.inl (false, ())))
               | false => match (!y3) with
                | true => some (.inl (a0, (dapp a1 ([y2] : List (Int))), (storeM a2 y2 (IntKind.wrap .i64 (((lookupM a2 y2).getD 0) + 1))), (storeM a3 y1 (IntKind.wrap .i64 (((lookupM a3 y1).getD 0) + 1))), a4, a5, (IntKind.wrap .i64 (a6 + 1)), ()))
                | false => some (.inl (a0, (dapp a1 ([y2] : List (Int))), (storeM a2 y2 (IntKind.wrap .i64 (((lookupM a2 y2).getD 0) + 1))), a3, a4, a5, (IntKind.wrap .i64 (a6 + 1)), ()))
             | false => match (!y3) with
              | true => some (.inl (a0, (dapp a1 ([y2] : List (Int))), (storeM a2 y2 (IntKind.wrap .i64 (((lookupM a2 y2).getD 0) + 1))), (storeM a3 y1 (IntKind.wrap .i64 (((lookupM a3 y1).getD 0) + 1))), a4, a5, (IntKind.wrap .i64 (a6 + 1)), ()))
              | false => some (.inl (a0, (dapp a1 ([y2] : List (Int))), (storeM a2 y2 (IntKind.wrap .i64 (((lookupM a2 y2).getD 0) + 1))), a3, a4, a5, (IntKind.wrap .i64 (a6 + 1)), ()))
            | false => none
        | false => match (ilt 0 ((lookupM a2 y2).getD 0)) with
         | true => some (.inr (.inl (false, ())))
         | false => match (fits ((dlen a1) + (dlen ([y2] : List (Int))))) with
          | true => match (!y3) with
           | true => match idx (dapp a1 ([y2] : List (Int))) (IntKind.wrap .i64 ((dlen (dapp a1 ([y2] : List (Int)))) - 1)) with
            | none => none
            | some x10 => match (!(ieq (dget (dapp a1 ([y2] : List (Int))) (dnat (IntKind.wrap .i64 ((dlen (dapp a1 ([y2] : List (Int)))) - 1))) 0) y1)) with
             | true => some (.inr (.inl (false, ())))
             | false => match (!y3) with
              | true => some (.inl (a0, (dapp a1 ([y2] : List (Int))), (storeM a2 y2 (IntKind.wrap .i64 (((lookupM a2 y2).getD 0) + 1))), (storeM a3 y1 (IntKind.wrap .i64 (((lookupM a3 y1).getD 0) + 1))), a4, a5, (IntKind.wrap .i64 (a6 + 1)), ()))
              | false => some (.inl (a0, (dapp a1 ([y2] : List (Int))), (storeM a2 y2 (IntKind.wrap .i64 (((lookupM a2 y2).getD 0) + 1))), a3, a4, a5, (IntKind.wrap .i64 (a6 + 1)), ()))
           | false => match (!y3) with
            | true => some (.inl (a0, (dapp a1 ([y2] : List (Int))), (storeM a2 y2 (IntKind.wrap .i64 (((lookupM a2 y2).getD 0) + 1))), (storeM a3 y1 (IntKind.wrap .i64 (((lookupM a3 y1).getD 0) + 1))), a4, a5, (IntKind.wrap .i64 (a6 + 1)), ()))
            | false => some (.inl (a0, (dapp a1 ([y2] : List (Int))), (storeM a2 y2 (IntKind.wrap .i64 (((lookupM a2 y2).getD 0) + 1))), a3, a4, a5, (IntKind.wrap .i64 (a6 + 1)), ()))
          | false => none
     | false => match (!y3) with
      | true => match idx a1 (IntKind.wrap .i64 ((dlen a1) - 1)) with
       | none => none
       | some x11 => match (!(ieq (dget a1 (dnat (IntKind.wrap .i64 ((dlen a1) - 1))) 0) y1)) with
        | true => some (.inr (.inl (false, ())))
        | false => match (!y3) with
         | true => some (.inl (a0, a1, a2, (storeM a3 y1 (IntKind.wrap .i64 (((lookupM a3 y1).getD 0) + 1))), a4, a5, (IntKind.wrap .i64 (a6 + 1)), ()))
         | false => some (.inl (a0, a1, a2, a3, a4, a5, (IntKind.wrap .i64 (a6 + 1)), ()))
      | false => match (!y3) with
       | true => some (.inl (a0, a1, a2, (storeM a3 y1 (IntKind.wrap .i64 (((lookupM a3 y1).getD 0) + 1))), a4, a5, (IntKind.wrap .i64 (a6 + 1)), ()))
       | false => some (.inl (a0, a1, a2, a3, a4, a5, (IntKind.wrap .i64 (a6 + 1)), ()))
 | false => some (.inr (.inr (.inl (a1, a2, a3, ()))))
def goes_d [Lk] : (Int × List Int × Unit) → Option ((Bool × Unit)) := fun (a0, a1, _) =>
 match idx a1 0 with
 | none => none
 | some x0 => match tin (a0, x0, ()) with
  | none => none
  | some (y1, _) => match (!y1) with
   | true => some (false, ())
   | false => match idx a1 0 with
    | none => none
    | some x2 => match idx a1 0 with
     | none => none
     | some x3 => match iterL goes_s0 many (a0, ([x2] : List (Int)), (storeM ([] : List (Int × Int)) x3 1), ([] : List (Int × Int)), a1, (dlen a1), 0, ()) with
      | none => none
      | some r => match r with
       | .inl (o4, _) => some (o4, ())
       | .inr r => match r with
        | .inl (o5, o6, o7, _) => match (ieq (dlen o5) 1) with
         | true => some ((ieq (dlen o7) (dlen o6)), ())
         | false => some (false, ())
        | .inr _ => none
def goes [Lk] := fun v => Lk.f (goes_d v)
theorem goes_eq v : goes v = goes_d v := lock_eq _
-- archipelago/tour.Right
abbrev tright_i : Items := [(.tmp 0, .dat (.prod (.int .i64) (.prod (.slice (.slice (.int .i64))) .unit)))]
abbrev tright_o : Items := [(.tmp 0, .dat .bool)]
abbrev tright_r : List RS := [.one]
abbrev tright_i2 : Items := [(.tmp 3, .map (.int .i64) (.int .i64)), (.tmp 78, .di), (.tmp 79, .di)]
abbrev tright_o2 : Outs := [(.ret, [(.tmp 2, .dat .bool)]), (.exit 4, [])]
def tright_s2 [Lk] : (List (Int × Int) × Int × Int × Unit) → Option ((List (Int × Int) × Int × Int × Unit) ⊕ (Bool × Unit) ⊕ (Unit) ⊕ Unit) := fun (a0, a1, a2, _) =>
 match (ilt a2 a1) with
 | true => match (ieq ((lookupM a0 a2).getD 0) 0) with
  | true => some (.inr (.inl (false, ())))
  | false => some (.inl (a0, a1, (IntKind.wrap .i64 (a2 + 1)), ()))
 | false => some (.inr (.inr (.inl ())))
abbrev tright_i1 : Items := [(.tmp 1, .box 2), (.cell 0 0, .di), (.cell 0 1, .dat (.slice (.slice (.int .i64)))), (.tmp 3, .map (.int .i64) (.int .i64)), (.tmp 4, .di), (.tmp 16, .dat (.slice (.slice (.int .i64)))), (.tmp 17, .di), (.tmp 18, .di), (.tmp 26, .dat (.slice (.int .i64))), (.tmp 28, .di), (.tmp 29, .di), (.tmp 30, .dat .bool), (.tmp 33, .dat (.slice (.int .i64))), (.tmp 34, .dat .bool), (.tmp 35, .dat .bool), (.tmp 38, .dat (.slice (.int .i64))), (.tmp 39, .di), (.tmp 40, .dat (.slice (.int .i64))), (.tmp 42, .di), (.tmp 43, .dat .bool), (.tmp 46, .ptr' 0 0), (.tmp 47, .di), (.tmp 48, .dat (.slice (.int .i64))), (.tmp 49, .dat .bool), (.tmp 50, .dat .bool), (.tmp 55, .dat (.slice (.int .i64))), (.tmp 56, .di), (.tmp 57, .di)]
abbrev tright_o1 : Outs := [(.ret, [(.tmp 2, .dat .bool)]), (.exit 2, [(.tmp 1, .box 2), (.cell 0 0, .di), (.cell 0 1, .dat (.slice (.slice (.int .i64)))), (.tmp 3, .map (.int .i64) (.int .i64)), (.tmp 4, .di), (.tmp 16, .dat (.slice (.slice (.int .i64)))), (.tmp 17, .di), (.tmp 18, .di), (.tmp 26, .dat (.slice (.int .i64))), (.tmp 28, .di), (.tmp 29, .di), (.tmp 30, .dat .bool), (.tmp 33, .dat (.slice (.int .i64))), (.tmp 34, .dat .bool), (.tmp 35, .dat .bool), (.tmp 38, .dat (.slice (.int .i64))), (.tmp 39, .di), (.tmp 40, .dat (.slice (.int .i64))), (.tmp 42, .di), (.tmp 43, .dat .bool), (.tmp 46, .ptr' 0 0), (.tmp 47, .di), (.tmp 48, .dat (.slice (.int .i64))), (.tmp 49, .dat .bool), (.tmp 50, .dat .bool)])]
def tright_s1 [Lk] : (Int × List (List Int) × List (Int × Int) × Int × List (List Int) × Int × Int × List Int × Int × Int × Bool × List Int × Bool × Bool × List Int × Int × List Int × Int × Bool × Int × List Int × Bool × Bool × List Int × Int × Int × Unit) → Option ((Int × List (List Int) × List (Int × Int) × Int × List (List Int) × Int × Int × List Int × Int × Int × Bool × List Int × Bool × Bool × List Int × Int × List Int × Int × Bool × Int × List Int × Bool × Bool × List Int × Int × Int × Unit) ⊕ (Bool × Unit) ⊕ (Int × List (List Int) × List (Int × Int) × Int × List (List Int) × Int × Int × List Int × Int × Int × Bool × List Int × Bool × Bool × List Int × Int × List Int × Int × Bool × Int × List Int × Bool × Bool × Unit) ⊕ Unit) := fun (a0, a1, a2, a3, a4, a5, a6, a7, a8, a9, a10, a11, a12, a13, a14, a15, a16, a17, a18, a19, a20, a21, a22, a23, a24, a25, _) =>
 match (ilt a25 a24) with
 | true => match idx a23 a25 with
  | none => none
  | some x0 => match (ilt x0 a0) with
   | true => match (ilt 0 ((lookupM a2 x0).getD 0)) with
    | true => some (.inr (.inl (false, ())))
    | false => some (.inl (a0, a1, (storeM a2 x0 (IntKind.wrap .i64 (((lookupM a2 x0).getD 0) + 1))), a3, a4, a5, a6, a7, a8, a9, a10, a11, a12, a13, a14, a15, a16, a17, a18, a19, a20, a21, a22, a23, a24, (IntKind.wrap .i64 (a25 + 1)), ()))
   | false => some (.inl (a0, a1, (storeM a2 x0 (IntKind.wrap .i64 (((lookupM a2 x0).getD 0) + 1))), a3, a4, a5, a6, a7, a8, a9, a10, a11, a12, a13, a14, a15, a16, a17, a18, a19, a20, a21, a22, a23, a24, (IntKind.wrap .i64 (a25 + 1)), ()))
 | false => some (.inr (.inr (.inl (a0, a1, a2, a3, a4, a5, a6, a7, a8, a9, a10, a11, a12, a13, a14, a15, a16, a17, a18, a19, a20, a21, a22, ()))))
abbrev tright_i0 : Items := [(.tmp 1, .box 2), (.cell 0 0, .di), (.cell 0 1, .dat (.slice (.slice (.int .i64)))), (.tmp 3, .map (.int .i64) (.int .i64)), (.tmp 4, .di), (.tmp 16, .dat (.slice (.slice (.int .i64)))), (.tmp 17, .di), (.tmp 18, .di)]
abbrev tright_o0 : Outs := [(.ret, [(.tmp 2, .dat .bool)]), (.exit 0, [(.tmp 1, .box 2), (.cell 0 0, .di), (.cell 0 1, .dat (.slice (.slice (.int .i64)))), (.tmp 3, .map (.int .i64) (.int .i64))])]
def tright_s0 [Lk] : (Int × List (List Int) × List (Int × Int) × Int × List (List Int) × Int × Int × Unit) → Option ((Int × List (List Int) × List (Int × Int) × Int × List (List Int) × Int × Int × Unit) ⊕ (Bool × Unit) ⊕ (Int × List (List Int) × List (Int × Int) × Unit) ⊕ Unit) := fun (a0, a1, a2, a3, a4, a5, a6, _) =>
 match (ilt a6 a5) with
 | true => match idx a4 a6 with
  | none => none
  | some x0 => match (ieq (dlen x0) 0) with
   | true => some (.inr (.inl (false, ())))
   | false => match idx x0 0 with
    | none => none
    | some x1 => match (ile x1 a3) with
     | true => some (.inr (.inl (false, ())))
     | false => match rright (x0, ()) with
      | none => none
      | some (y2, _) => match (!y2) with
       | true => some (.inr (.inl (false, ())))
       | false => match minI (x0, ()) with
        | none => none
        | some (y3, _) => match idx x0 0 with
         | none => none
         | some x4 => match (!(ieq y3 x4)) with
          | true => some (.inr (.inl (false, ())))
          | false => match goes (a0, x0, ()) with
           | none => none
           | some (y5, _) => match (!y5) with
            | true => some (.inr (.inl (false, ())))
            | false => match idx x0 0 with
             | none => none
             | some x6 => match iterL tright_s1 many (a0, a1, a2, x6, a4, a5, a6, x0, x1, a3, (ile x1 a3), x0, y2, (!y2), x0, y3, x0, x4, (!(ieq y3 x4)), a0, x0, y5, (!y5), x0, (dlen x0), 0, ()) with
              | none => none
              | some r => match r with
               | .inl (o7, _) => some (.inr (.inl (o7, ())))
               | .inr r => match r with
                | .inl (o8, o9, o10, o11, o12, o13, o14, o15, o16, o17, o18, o19, o20, o21, o22, o23, o24, o25, o26, o27, o28, o29, o30, _) => some (.inl (o8, o9, o10, o11, o12, o13, (IntKind.wrap .i64 (o14 + 1)), ()))
                | .inr _ => none
 | false => some (.inr (.inr (.inl (a0, a1, a2, ()))))
def tright_d [Lk] : ((Int × (List (List Int)) × Unit) × Unit) → Option ((Bool × Unit)) := fun (a0, _) =>
 match tsized (a0.1, ()) with
 | none => none
 | some (y0, _) => match (!y0) with
  | true => some (false, ())
  | false => match iterL tright_s0 many (a0.1, a0.2.1, ([] : List (Int × Int)), (-1 : Int), a0.2.1, (dlen a0.2.1), 0, ()) with
   | none => none
   | some r => match r with
    | .inl (o1, _) => some (o1, ())
    | .inr r => match r with
     | .inl (o2, o3, o4, _) => match iterL tright_s2 many (o4, o2, 0, ()) with
      | none => none
      | some r => match r with
       | .inl (o5, _) => some (o5, ())
       | .inr r => match r with
        | .inl _ => some (true, ())
        | .inr _ => none
     | .inr _ => none
def tright [Lk] := fun v => Lk.f (tright_d v)
theorem tright_eq v : tright v = tright_d v := lock_eq _
-- archipelago/tour.asked
abbrev asked_i : Items := [(.tmp 0, .dat (.prod (.int .i64) (.prod (.slice (.slice (.int .i64))) .unit))), (.tmp 1, .di), (.tmp 2, .di)]
abbrev asked_o : Items := [(.tmp 0, .di)]
abbrev asked_r : List RS := [.one]
def asked_d [Lk] : ((Int × (List (List Int)) × Unit) × Int × Int × Unit) → Option ((Int × Unit)) := fun (a0, a1, a2, _) =>
 match tright ((a0.1, (a0.2.1, ())), ()) with
 | none => none
 | some (y0, _) => match (!y0) with
  | true => some (1, ())
  | false => match tin (a0.1, a1, ()) with
   | none => none
   | some (y1, _) => match (!y1) with
    | true => some (10, ())
    | false => match tin (a0.1, a2, ()) with
     | none => none
     | some (y2, _) => match (!y2) with
      | true => some (10, ())
      | false => some (0, ())
def asked [Lk] := fun v => Lk.f (asked_d v)
theorem asked_eq v : asked v = asked_d v := lock_eq _
-- cmp.isNaN[int]
abbrev nanI_i : Items := [(.tmp 0, .di)]
abbrev nanI_o : Items := [(.tmp 0, .dat .bool)]
abbrev nanI_r : List RS := [.one]
def nanI_d [Lk] : (Int × Unit) → Option ((Bool × Unit)) := fun (a0, _) =>
 some ((!(ieq a0 a0)), ())
def nanI [Lk] := fun v => Lk.f (nanI_d v)
theorem nanI_eq v : nanI v = nanI_d v := lock_eq _
-- cmp.Compare[int]
abbrev compareI_i : Items := [(.tmp 0, .di), (.tmp 1, .di)]
abbrev compareI_o : Items := [(.tmp 0, .di)]
abbrev compareI_r : List RS := [.one]
def compareI_d [Lk] : (Int × Int × Unit) → Option ((Int × Unit)) := fun (a0, a1, _) =>
 match nanI (a0, ()) with
 | none => none
 | some (y0, _) => match nanI (a1, ()) with
  | none => none
  | some (y1, _) => match y0 with
   | true => match y1 with
    | true => some (0, ())
    | false => some ((-1 : Int), ())
   | false => match y1 with
    | true => some (1, ())
    | false => match (ilt a0 a1) with
     | true => some ((-1 : Int), ())
     | false => match (ilt a1 a0) with
      | true => some (1, ())
      | false => some (0, ())
def compareI [Lk] := fun v => Lk.f (compareI_d v)
theorem compareI_eq v : compareI v = compareI_d v := lock_eq _
-- archipelago/tour.with$1
abbrev with1_i : Items := [(.tmp 0, .dat (.slice (.int .i64))), (.tmp 1, .dat (.slice (.int .i64)))]
abbrev with1_o : Items := [(.tmp 0, .di)]
abbrev with1_r : List RS := [.one]
def with1_d [Lk] : (List Int × List Int × Unit) → Option ((Int × Unit)) := fun (a0, a1, _) =>
 match idx a0 0 with
 | none => none
 | some x0 => match idx a1 0 with
  | none => none
  | some x1 => match compareI (x0, x1, ()) with
   | none => none
   | some (y2, _) => some (y2, ())
def with1 [Lk] := fun v => Lk.f (with1_d v)
theorem with1_eq v : with1 v = with1_d v := lock_eq _
-- math/bits.Len64
def lenTab : List Int := [0, 1, 2, 2, 3, 3, 3, 3, 4, 4, 4, 4, 4, 4, 4, 4, 5, 5, 5, 5, 5, 5, 5, 5, 5, 5, 5, 5, 5, 5, 5, 5, 6, 6, 6, 6, 6, 6, 6, 6, 6, 6, 6, 6, 6, 6, 6, 6, 6, 6, 6, 6, 6, 6, 6, 6, 6, 6, 6, 6, 6, 6, 6, 6, 7, 7, 7, 7, 7, 7, 7, 7, 7, 7, 7, 7, 7, 7, 7, 7, 7, 7, 7, 7, 7, 7, 7, 7, 7, 7, 7, 7, 7, 7, 7, 7, 7, 7, 7, 7, 7, 7, 7, 7, 7, 7, 7, 7, 7, 7, 7, 7, 7, 7, 7, 7, 7, 7, 7, 7, 7, 7, 7, 7, 7, 7, 7, 7, 8, 8, 8, 8, 8, 8, 8, 8, 8, 8, 8, 8, 8, 8, 8, 8, 8, 8, 8, 8, 8, 8, 8, 8, 8, 8, 8, 8, 8, 8, 8, 8, 8, 8, 8, 8, 8, 8, 8, 8, 8, 8, 8, 8, 8, 8, 8, 8, 8, 8, 8, 8, 8, 8, 8, 8, 8, 8, 8, 8, 8, 8, 8, 8, 8, 8, 8, 8, 8, 8, 8, 8, 8, 8, 8, 8, 8, 8, 8, 8, 8, 8, 8, 8, 8, 8, 8, 8, 8, 8, 8, 8, 8, 8, 8, 8, 8, 8, 8, 8, 8, 8, 8, 8, 8, 8, 8, 8, 8, 8, 8, 8, 8, 8, 8, 8, 8, 8, 8, 8, 8, 8, 8, 8, 8, 8, 8, 8]
abbrev len64_i : Items := [(.tmp 0, .dat (.int .u64))]
abbrev len64_o : Items := [(.tmp 0, .di)]
abbrev len64_r : List RS := [.one]
def len64_d [Lk] : (Int × Unit) → Option ((Int × Unit)) := fun (a0, _) =>
 match (ile 4294967296 a0) with
 | true => match shr? .u64 a0 32 with
  | none => none
  | some x0 => match (ile 65536 x0) with
   | true => match shr? .u64 x0 16 with
    | none => none
    | some x1 => match (ile 256 x1) with
     | true => match shr? .u64 x1 8 with
      | none => none
      | some x2 => match idx lenTab (IntKind.wrap .u8 x2) with
       | none => none
       | some x3 => some ((IntKind.wrap .i64 ((IntKind.wrap .i64 ((IntKind.wrap .i64 (32 + 16)) + 8)) + (IntKind.wrap .i64 x3))), ())
     | false => match idx lenTab (IntKind.wrap .u8 x1) with
      | none => none
      | some x4 => some ((IntKind.wrap .i64 ((IntKind.wrap .i64 (32 + 16)) + (IntKind.wrap .i64 x4))), ())
   | false => match (ile 256 x0) with
    | true => match shr? .u64 x0 8 with
     | none => none
     | some x5 => match idx lenTab (IntKind.wrap .u8 x5) with
      | none => none
      | some x6 => some ((IntKind.wrap .i64 ((IntKind.wrap .i64 (32 + 8)) + (IntKind.wrap .i64 x6))), ())
    | false => match idx lenTab (IntKind.wrap .u8 x0) with
     | none => none
     | some x7 => some ((IntKind.wrap .i64 (32 + (IntKind.wrap .i64 x7))), ())
 | false => match (ile 65536 a0) with
  | true => match shr? .u64 a0 16 with
   | none => none
   | some x8 => match (ile 256 x8) with
    | true => match shr? .u64 x8 8 with
     | none => none
     | some x9 => match idx lenTab (IntKind.wrap .u8 x9) with
      | none => none
      | some x10 => some ((IntKind.wrap .i64 ((IntKind.wrap .i64 ((IntKind.wrap .i64 (0 + 16)) + 8)) + (IntKind.wrap .i64 x10))), ())
    | false => match idx lenTab (IntKind.wrap .u8 x8) with
     | none => none
     | some x11 => some ((IntKind.wrap .i64 ((IntKind.wrap .i64 (0 + 16)) + (IntKind.wrap .i64 x11))), ())
  | false => match (ile 256 a0) with
   | true => match shr? .u64 a0 8 with
    | none => none
    | some x12 => match idx lenTab (IntKind.wrap .u8 x12) with
     | none => none
     | some x13 => some ((IntKind.wrap .i64 ((IntKind.wrap .i64 (0 + 8)) + (IntKind.wrap .i64 x13))), ())
   | false => match idx lenTab (IntKind.wrap .u8 a0) with
    | none => none
    | some x14 => some ((IntKind.wrap .i64 (0 + (IntKind.wrap .i64 x14))), ())
def len64 [Lk] := fun v => Lk.f (len64_d v)
theorem len64_eq v : len64 v = len64_d v := lock_eq _
-- math/bits.Len
abbrev bitsLen_i : Items := [(.tmp 0, .dat (.int .u64))]
abbrev bitsLen_o : Items := [(.tmp 0, .di)]
abbrev bitsLen_r : List RS := [.one]
def bitsLen_d [Lk] : (Int × Unit) → Option ((Int × Unit)) := fun (a0, _) =>
 match len64 (a0, ()) with
 | none => none
 | some (y0, _) => some (y0, ())
def bitsLen [Lk] := fun v => Lk.f (bitsLen_d v)
theorem bitsLen_eq v : bitsLen v = bitsLen_d v := lock_eq _
-- (*slices.xorshift).Next
abbrev xorNext_i : Items := [(.tmp 0, .box 1), (.cell 0 0, .dat (.int .u64))]
abbrev xorNext_o : Items := [(.obj 0, .box 1), (.cell 0 0, .dat (.int .u64)), (.tmp 0, .dat (.int .u64))]
abbrev xorNext_r : List RS := [.one]
def xorNext_d [Lk] : (Int × Unit) → Option ((Int × Int × Unit)) := fun (a0, _) =>
 match shl? .u64 a0 13 with
 | none => none
 | some x0 => match shr? .u64 (IntKind.wrap .u64 ((BitVec.ofInt (IntKind.bits .u64) a0 ^^^ BitVec.ofInt (IntKind.bits .u64) x0).toNat)) 7 with
  | none => none
  | some x1 => match shl? .u64 (IntKind.wrap .u64 ((BitVec.ofInt (IntKind.bits .u64) (IntKind.wrap .u64 ((BitVec.ofInt (IntKind.bits .u64) a0 ^^^ BitVec.ofInt (IntKind.bits .u64) x0).toNat)) ^^^ BitVec.ofInt (IntKind.bits .u64) x1).toNat)) 17 with
   | none => none
   | some x2 => some ((IntKind.wrap .u64 ((BitVec.ofInt (IntKind.bits .u64) (IntKind.wrap .u64 ((BitVec.ofInt (IntKind.bits .u64) (IntKind.wrap .u64 ((BitVec.ofInt (IntKind.bits .u64) a0 ^^^ BitVec.ofInt (IntKind.bits .u64) x0).toNat)) ^^^ BitVec.ofInt (IntKind.bits .u64) x1).toNat)) ^^^ BitVec.ofInt (IntKind.bits .u64) x2).toNat)), (IntKind.wrap .u64 ((BitVec.ofInt (IntKind.bits .u64) (IntKind.wrap .u64 ((BitVec.ofInt (IntKind.bits .u64) (IntKind.wrap .u64 ((BitVec.ofInt (IntKind.bits .u64) a0 ^^^ BitVec.ofInt (IntKind.bits .u64) x0).toNat)) ^^^ BitVec.ofInt (IntKind.bits .u64) x1).toNat)) ^^^ BitVec.ofInt (IntKind.bits .u64) x2).toNat)), ())
def xorNext [Lk] := fun v => Lk.f (xorNext_d v)
theorem xorNext_eq v : xorNext v = xorNext_d v := lock_eq _
-- slices.nextPowerOfTwo
abbrev nextPow_i : Items := [(.tmp 0, .di)]
abbrev nextPow_o : Items := [(.tmp 0, .dat (.int .u64))]
abbrev nextPow_r : List RS := [.one]
def nextPow_d [Lk] : (Int × Unit) → Option ((Int × Unit)) := fun (a0, _) =>
 match bitsLen ((IntKind.wrap .u64 a0), ()) with
 | none => none
 | some (y0, _) => match shl? .u64 1 y0 with
  | none => none
  | some x1 => some (x1, ())
def nextPow [Lk] := fun v => Lk.f (nextPow_d v)
theorem nextPow_eq v : nextPow v = nextPow_d v := lock_eq _
-- slices.insertionSortCmpFunc[[]int]
abbrev insL_i : Items := [(.tmp 0, .own 28 (.slice (.int .i64))), (.tmp 1, .di), (.tmp 2, .di), (.tmp 3, .clo 84 [])]
abbrev insL_o : Items := [(.obj 0, .own 28 (.slice (.int .i64)))]
abbrev insL_r : List RS := []
abbrev insL_i1 : Items := [(.obj 0, .own 28 (.slice (.int .i64))), (.tmp 0, .own' 0), (.tmp 1, .di), (.tmp 2, .di), (.tmp 3, .clo 84 []), (.tmp 8, .di), (.tmp 9, .di)]
abbrev insL_o1 : Outs := [(.exit 2, [(.obj 0, .own 28 (.slice (.int .i64))), (.tmp 0, .own' 0), (.tmp 1, .di), (.tmp 2, .di), (.tmp 3, .clo 84 []), (.tmp 8, .di)])]
def insL_s1 [Lk] : (List (List Int) × Int × Int × Int × Int × Unit) → Option ((List (List Int) × Int × Int × Int × Int × Unit) ⊕ (List (List Int) × Int × Int × Int × Unit) ⊕ Unit) := fun (a0, a1, a2, a3, a4, _) =>
 match (ilt a1 a4) with
 | true => match idx a0 a4 with
  | none => none
  | some x0 => match idx a0 (IntKind.wrap .i64 (a4 - 1)) with
   | none => none
   | some x1 => match with1 ((dget a0 (dnat a4) ([] : List (Int))), (dget a0 (dnat (IntKind.wrap .i64 (a4 - 1))) ([] : List (Int))), ()) with
    | none => none
    | some (y2, _) => match (ilt y2 0) with
     | true => match idx a0 (IntKind.wrap .i64 (a4 - 1)) with
      | none => none
      | some x3 => match idx a0 a4 with
       | none => none
       | some x4 => match idx a0 a4 with
        | none => none
        | some x5 => match idx (dset a0 (dnat a4) (dget a0 (dnat (IntKind.wrap .i64 (a4 - 1))) ([] : List (Int)))) (IntKind.wrap .i64 (a4 - 1)) with
         | none => none
         | some x6 => some (.inl ((dset (dset a0 (dnat a4) (dget a0 (dnat (IntKind.wrap .i64 (a4 - 1))) ([] : List (Int)))) (dnat (IntKind.wrap .i64 (a4 - 1))) (dget a0 (dnat a4) ([] : List (Int)))), a1, a2, a3, (IntKind.wrap .i64 (a4 - 1)), ()))
     | false => some (.inr (.inl (a0, a1, a2, a3, ())))
 | false => some (.inr (.inl (a0, a1, a2, a3, ())))
abbrev insL_i0 : Items := [(.obj 0, .own 28 (.slice (.int .i64))), (.tmp 0, .own' 0), (.tmp 1, .di), (.tmp 2, .di), (.tmp 3, .clo 84 []), (.tmp 8, .di)]
abbrev insL_o0 : Outs := [(.exit 0, [(.obj 0, .own 28 (.slice (.int .i64)))])]
def insL_s0 [Lk] : (List (List Int) × Int × Int × Int × Unit) → Option ((List (List Int) × Int × Int × Int × Unit) ⊕ (List (List Int) × Unit) ⊕ Unit) := fun (a0, a1, a2, a3, _) =>
 match (ilt a3 a2) with
 | true => match iterL insL_s1 many (a0, a1, a2, a3, a3, ()) with
  | none => none
  | some r => match r with
   | .inl (o0, o1, o2, o3, _) => some (.inl (o0, o1, o2, (IntKind.wrap .i64 (o3 + 1)), ()))
   | .inr _ => none
 | false => some (.inr (.inl (a0, ())))
def insL_d [Lk] : (List (List Int) × Int × Int × Unit) → Option ((List (List Int) × Unit)) := fun (a0, a1, a2, _) =>
 match iterL insL_s0 many (a0, a1, a2, (IntKind.wrap .i64 (a1 + 1)), ()) with
 | none => none
 | some r => match r with
  | .inl (o0, _) => some (o0, ())
  | .inr _ => none
def insL [Lk] := fun v => Lk.f (insL_d v)
theorem insL_eq v : insL v = insL_d v := lock_eq _
-- slices.siftDownCmpFunc[[]int]
abbrev siftL_i : Items := [(.tmp 0, .own 28 (.slice (.int .i64))), (.tmp 1, .di), (.tmp 2, .di), (.tmp 3, .di), (.tmp 4, .clo 84 [])]
abbrev siftL_o : Items := [(.obj 0, .own 28 (.slice (.int .i64)))]
abbrev siftL_r : List RS := []
abbrev siftL_i0 : Items := [(.obj 0, .own 28 (.slice (.int .i64))), (.tmp 0, .own' 0), (.tmp 2, .di), (.tmp 3, .di), (.tmp 4, .clo 84 []), (.tmp 10, .di)]
abbrev siftL_o0 : Outs := [(.exit 0, [(.obj 0, .own 28 (.slice (.int .i64)))]), (.ret, [(.obj 0, .own 28 (.slice (.int .i64)))])]
def siftL_s0 [Lk] : (List (List Int) × Int × Int × Int × Unit) → Option ((List (List Int) × Int × Int × Int × Unit) ⊕ (List (List Int) × Unit) ⊕ (List (List Int) × Unit) ⊕ Unit) := fun (a0, a1, a2, a3, _) =>
 match (ile a1 (IntKind.wrap .i64 ((IntKind.wrap .i64 (2 * a3)) + 1))) with
 | true => some (.inr (.inl (a0, ())))
 | false => match (ilt (IntKind.wrap .i64 ((IntKind.wrap .i64 ((IntKind.wrap .i64 (2 * a3)) + 1)) + 1)) a1) with
  | true => match idx a0 (IntKind.wrap .i64 (a2 + (IntKind.wrap .i64 ((IntKind.wrap .i64 (2 * a3)) + 1)))) with
   | none => none
   | some x0 => match idx a0 (IntKind.wrap .i64 ((IntKind.wrap .i64 (a2 + (IntKind.wrap .i64 ((IntKind.wrap .i64 (2 * a3)) + 1)))) + 1)) with
    | none => none
    | some x1 => match with1 ((dget a0 (dnat (IntKind.wrap .i64 (a2 + (IntKind.wrap .i64 ((IntKind.wrap .i64 (2 * a3)) + 1))))) ([] : List (Int))), (dget a0 (dnat (IntKind.wrap .i64 ((IntKind.wrap .i64 (a2 + (IntKind.wrap .i64 ((IntKind.wrap .i64 (2 * a3)) + 1)))) + 1))) ([] : List (Int))), ()) with
     | none => none
     | some (y2, _) => match (ilt y2 0) with
      | true => match idx a0 (IntKind.wrap .i64 (a2 + a3)) with
       | none => none
       | some x3 => match idx a0 (IntKind.wrap .i64 (a2 + (IntKind.wrap .i64 ((IntKind.wrap .i64 ((IntKind.wrap .i64 (2 * a3)) + 1)) + 1)))) with
        | none => none
        | some x4 => match with1 ((dget a0 (dnat (IntKind.wrap .i64 (a2 + a3))) ([] : List (Int))), (dget a0 (dnat (IntKind.wrap .i64 (a2 + (IntKind.wrap .i64 ((IntKind.wrap .i64 ((IntKind.wrap .i64 (2 * a3)) + 1)) + 1))))) ([] : List (Int))), ()) with
         | none => none
         | some (y5, _) => match (!(ilt y5 0)) with
          | true => some (.inr (.inr (.inl (a0, ()))))
          | false => match idx a0 (IntKind.wrap .i64 (a2 + (IntKind.wrap .i64 ((IntKind.wrap .i64 ((IntKind.wrap .i64 (2 * a3)) + 1)) + 1)))) with
           | none => none
           | some x6 => match idx a0 (IntKind.wrap .i64 (a2 + a3)) with
            | none => none
            | some x7 => match idx a0 (IntKind.wrap .i64 (a2 + a3)) with
             | none => none
             | some x8 => match idx (dset a0 (dnat (IntKind.wrap .i64 (a2 + a3))) (dget a0 (dnat (IntKind.wrap .i64 (a2 + (IntKind.wrap .i64 ((IntKind.wrap .i64 ((IntKind.wrap .i64 (2 * a3)) + 1)) + 1))))) ([] : List (Int)))) (IntKind.wrap .i64 (a2 + (IntKind.wrap .i64 ((IntKind.wrap .i64 ((IntKind.wrap .i64 (2 * a3)) + 1)) + 1)))) with
              | none => none
              | some x9 => some (.inl ((dset (dset a0 (dnat (IntKind.wrap .i64 (a2 + a3))) (dget a0 (dnat (IntKind.wrap .i64 (a2 + (IntKind.wrap .i64 ((IntKind.wrap .i64 ((IntKind.wrap .i64 (2 * a3)) + 1)) + 1))))) ([] : List (Int)))) (dnat (IntKind.wrap .i64 (a2 + (IntKind.wrap .i64 ((IntKind.wrap .i64 ((IntKind.wrap .i64 (2 * a3)) + 1)) + 1))))) (dget a0 (dnat (IntKind.wrap .i64 (a2 + a3))) ([] : List (Int)))), a1, a2, (IntKind.wrap .i64 ((IntKind.wrap .i64 ((IntKind.wrap .i64 (2 * a3)) + 1)) + 1)), ()))
      | false => match idx a0 (IntKind.wrap .i64 (a2 + a3)) with
       | none => none
       | some x10 => match idx a0 (IntKind.wrap .i64 (a2 + (IntKind.wrap .i64 ((IntKind.wrap .i64 (2 * a3)) + 1)))) with
        | none => none
        | some x11 => match with1 ((dget a0 (dnat (IntKind.wrap .i64 (a2 + a3))) ([] : List (Int))), (dget a0 (dnat (IntKind.wrap .i64 (a2 + (IntKind.wrap .i64 ((IntKind.wrap .i64 (2 * a3)) + 1))))) ([] : List (Int))), ()) with
         | none => none
         | some (y12, _) => match (!(ilt y12 0)) with
          | true => some (.inr (.inr (.inl (a0, ()))))
          | false => match idx a0 (IntKind.wrap .i64 (a2 + (IntKind.wrap .i64 ((IntKind.wrap .i64 (2 * a3)) + 1)))) with
           | none => none
           | some x13 => match idx a0 (IntKind.wrap .i64 (a2 + a3)) with
            | none => none
            | some x14 => match idx a0 (IntKind.wrap .i64 (a2 + a3)) with
             | none => none
             | some x15 => match idx (dset a0 (dnat (IntKind.wrap .i64 (a2 + a3))) (dget a0 (dnat (IntKind.wrap .i64 (a2 + (IntKind.wrap .i64 ((IntKind.wrap .i64 (2 * a3)) + 1))))) ([] : List (Int)))) (IntKind.wrap .i64 (a2 + (IntKind.wrap .i64 ((IntKind.wrap .i64 (2 * a3)) + 1)))) with
              | none => none
              | some x16 => some (.inl ((dset (dset a0 (dnat (IntKind.wrap .i64 (a2 + a3))) (dget a0 (dnat (IntKind.wrap .i64 (a2 + (IntKind.wrap .i64 ((IntKind.wrap .i64 (2 * a3)) + 1))))) ([] : List (Int)))) (dnat (IntKind.wrap .i64 (a2 + (IntKind.wrap .i64 ((IntKind.wrap .i64 (2 * a3)) + 1))))) (dget a0 (dnat (IntKind.wrap .i64 (a2 + a3))) ([] : List (Int)))), a1, a2, (IntKind.wrap .i64 ((IntKind.wrap .i64 (2 * a3)) + 1)), ()))
  | false => match idx a0 (IntKind.wrap .i64 (a2 + a3)) with
   | none => none
   | some x17 => match idx a0 (IntKind.wrap .i64 (a2 + (IntKind.wrap .i64 ((IntKind.wrap .i64 (2 * a3)) + 1)))) with
    | none => none
    | some x18 => match with1 ((dget a0 (dnat (IntKind.wrap .i64 (a2 + a3))) ([] : List (Int))), (dget a0 (dnat (IntKind.wrap .i64 (a2 + (IntKind.wrap .i64 ((IntKind.wrap .i64 (2 * a3)) + 1))))) ([] : List (Int))), ()) with
     | none => none
     | some (y19, _) => match (!(ilt y19 0)) with
      | true => some (.inr (.inr (.inl (a0, ()))))
      | false => match idx a0 (IntKind.wrap .i64 (a2 + (IntKind.wrap .i64 ((IntKind.wrap .i64 (2 * a3)) + 1)))) with
       | none => none
       | some x20 => match idx a0 (IntKind.wrap .i64 (a2 + a3)) with
        | none => none
        | some x21 => match idx a0 (IntKind.wrap .i64 (a2 + a3)) with
         | none => none
         | some x22 => match idx (dset a0 (dnat (IntKind.wrap .i64 (a2 + a3))) (dget a0 (dnat (IntKind.wrap .i64 (a2 + (IntKind.wrap .i64 ((IntKind.wrap .i64 (2 * a3)) + 1))))) ([] : List (Int)))) (IntKind.wrap .i64 (a2 + (IntKind.wrap .i64 ((IntKind.wrap .i64 (2 * a3)) + 1)))) with
          | none => none
          | some x23 => some (.inl ((dset (dset a0 (dnat (IntKind.wrap .i64 (a2 + a3))) (dget a0 (dnat (IntKind.wrap .i64 (a2 + (IntKind.wrap .i64 ((IntKind.wrap .i64 (2 * a3)) + 1))))) ([] : List (Int)))) (dnat (IntKind.wrap .i64 (a2 + (IntKind.wrap .i64 ((IntKind.wrap .i64 (2 * a3)) + 1))))) (dget a0 (dnat (IntKind.wrap .i64 (a2 + a3))) ([] : List (Int)))), a1, a2, (IntKind.wrap .i64 ((IntKind.wrap .i64 (2 * a3)) + 1)), ()))
def siftL_d [Lk] : (List (List Int) × Int × Int × Int × Unit) → Option ((List (List Int) × Unit)) := fun (a0, a1, a2, a3, _) =>
 match iterL siftL_s0 many (a0, a2, a3, a1, ()) with
 | none => none
 | some r => match r with
  | .inl (o0, _) => some (o0, ())
  | .inr r => match r with
   | .inl (o1, _) => some (o1, ())
   | .inr _ => none
def siftL [Lk] := fun v => Lk.f (siftL_d v)
theorem siftL_eq v : siftL v = siftL_d v := lock_eq _
-- slices.heapSortCmpFunc[[]int]
abbrev heapL_i : Items := [(.tmp 0, .own 28 (.slice (.int .i64))), (.tmp 1, .di), (.tmp 2, .di), (.tmp 3, .clo 84 [])]
abbrev heapL_o : Items := [(.obj 0, .own 28 (.slice (.int .i64)))]
abbrev heapL_r : List RS := []
abbrev heapL_i1 : Items := [(.obj 0, .own 28 (.slice (.int .i64))), (.tmp 0, .own' 0), (.tmp 3, .clo 84 []), (.tmp 8, .di), (.tmp 9, .di), (.tmp 12, .di)]
abbrev heapL_o1 : Outs := [(.exit 2, [(.obj 0, .own 28 (.slice (.int .i64)))])]
def heapL_s1 [Lk] : (List (List Int) × Int × Int × Int × Unit) → Option ((List (List Int) × Int × Int × Int × Unit) ⊕ (List (List Int) × Unit) ⊕ Unit) := fun (a0, a1, a2, a3, _) =>
 match (ile 0 a3) with
 | true => match idx a0 (IntKind.wrap .i64 (a1 + a3)) with
  | none => none
  | some x0 => match idx a0 a1 with
   | none => none
   | some x1 => match idx a0 a1 with
    | none => none
    | some x2 => match idx (dset a0 (dnat a1) (dget a0 (dnat (IntKind.wrap .i64 (a1 + a3))) ([] : List (Int)))) (IntKind.wrap .i64 (a1 + a3)) with
     | none => none
     | some x3 => match siftL ((dset (dset a0 (dnat a1) (dget a0 (dnat (IntKind.wrap .i64 (a1 + a3))) ([] : List (Int)))) (dnat (IntKind.wrap .i64 (a1 + a3))) (dget a0 (dnat a1) ([] : List (Int)))), a2, a3, a1, ()) with
      | none => none
      | some (y4, _) => some (.inl (y4, a1, a2, (IntKind.wrap .i64 (a3 - 1)), ()))
 | false => some (.inr (.inl (a0, ())))
abbrev heapL_i0 : Items := [(.obj 0, .own 28 (.slice (.int .i64))), (.tmp 0, .own' 0), (.tmp 3, .clo 84 []), (.tmp 8, .di), (.tmp 9, .di), (.tmp 10, .di), (.tmp 11, .di)]
abbrev heapL_o0 : Outs := [(.exit 0, [(.obj 0, .own 28 (.slice (.int .i64))), (.tmp 0, .own' 0), (.tmp 3, .clo 84 []), (.tmp 8, .di), (.tmp 9, .di), (.tmp 10, .di)])]
def heapL_s0 [Lk] : (List (List Int) × Int × Int × Int × Int × Unit) → Option ((List (List Int) × Int × Int × Int × Int × Unit) ⊕ (List (List Int) × Int × Int × Int × Unit) ⊕ Unit) := fun (a0, a1, a2, a3, a4, _) =>
 match (ile 0 a4) with
 | true => match siftL (a0, a4, a3, a1, ()) with
  | none => none
  | some (y0, _) => some (.inl (y0, a1, a2, a3, (IntKind.wrap .i64 (a4 - 1)), ()))
 | false => some (.inr (.inl (a0, a1, a2, a3, ())))
def heapL_d [Lk] : (List (List Int) × Int × Int × Unit) → Option ((List (List Int) × Unit)) := fun (a0, a1, a2, _) =>
 match quo? .i64 (IntKind.wrap .i64 ((IntKind.wrap .i64 (a2 - a1)) - 1)) 2 with
 | none => none
 | some x0 => match iterL heapL_s0 many (a0, a1, 0, (IntKind.wrap .i64 (a2 - a1)), x0, ()) with
  | none => none
  | some r => match r with
   | .inl (o1, o2, o3, o4, _) => match iterL heapL_s1 many (o1, o2, o3, (IntKind.wrap .i64 (o4 - 1)), ()) with
    | none => none
    | some r => match r with
     | .inl (o5, _) => some (o5, ())
     | .inr _ => none
   | .inr _ => none
def heapL [Lk] := fun v => Lk.f (heapL_d v)
theorem heapL_eq v : heapL v = heapL_d v := lock_eq _
-- slices.breakPatternsCmpFunc[[]int]
abbrev breakL_i : Items := [(.tmp 0, .own 28 (.slice (.int .i64))), (.tmp 1, .di), (.tmp 2, .di), (.tmp 3, .clo 84 [])]
abbrev breakL_o : Items := [(.obj 0, .own 28 (.slice (.int .i64)))]
abbrev breakL_r : List RS := []
abbrev breakL_i0 : Items := [(.obj 0, .own 28 (.slice (.int .i64))), (.tmp 0, .own' 0), (.tmp 1, .di), (.tmp 8, .di), (.tmp 9, .box 1), (.cell 1 0, .dat (.int .u64)), (.tmp 10, .dat (.int .u64)), (.tmp 11, .di)]
abbrev breakL_o0 : Outs := [(.exit 0, [(.obj 0, .own 28 (.slice (.int .i64)))])]
def breakL_s0 [Lk] : (List (List Int) × Int × Int × Int × Int × Int × Unit) → Option ((List (List Int) × Int × Int × Int × Int × Int × Unit) ⊕ (List (List Int) × Unit) ⊕ Unit) := fun (a0, a1, a2, a3, a4, a5, _) =>
 match quo? .i64 a2 4 with
 | none => none
 | some x0 => match (ile a5 (IntKind.wrap .i64 ((IntKind.wrap .i64 (a1 + (IntKind.wrap .i64 (x0 * 2)))) + 1))) with
  | true => match xorNext (a3, ()) with
   | none => none
   | some (y1, y2, _) => match (ile a2 (IntKind.wrap .i64 (IntKind.wrap .u64 ((BitVec.ofInt (IntKind.bits .u64) y2 &&& BitVec.ofInt (IntKind.bits .u64) (IntKind.wrap .u64 (a4 - 1))).toNat)))) with
    | true => match idx a0 (IntKind.wrap .i64 (a1 + (IntKind.wrap .i64 ((IntKind.wrap .i64 (IntKind.wrap .u64 ((BitVec.ofInt (IntKind.bits .u64) y2 &&& BitVec.ofInt (IntKind.bits .u64) (IntKind.wrap .u64 (a4 - 1))).toNat))) - a2)))) with
     | none => none
     | some x3 => match idx a0 a5 with
      | none => none
      | some x4 => match idx a0 a5 with
       | none => none
       | some x5 => match idx (dset a0 (dnat a5) (dget a0 (dnat (IntKind.wrap .i64 (a1 + (IntKind.wrap .i64 ((IntKind.wrap .i64 (IntKind.wrap .u64 ((BitVec.ofInt (IntKind.bits .u64) y2 &&& BitVec.ofInt (IntKind.bits .u64) (IntKind.wrap .u64 (a4 - 1))).toNat))) - a2))))) ([] : List (Int)))) (IntKind.wrap .i64 (a1 + (IntKind.wrap .i64 ((IntKind.wrap .i64 (IntKind.wrap .u64 ((BitVec.ofInt (IntKind.bits .u64) y2 &&& BitVec.ofInt (IntKind.bits .u64) (IntKind.wrap .u64 (a4 - 1))).toNat))) - a2)))) with
        | none => none
        | some x6 => some (.inl ((dset (dset a0 (dnat a5) (dget a0 (dnat (IntKind.wrap .i64 (a1 + (IntKind.wrap .i64 ((IntKind.wrap .i64 (IntKind.wrap .u64 ((BitVec.ofInt (IntKind.bits .u64) y2 &&& BitVec.ofInt (IntKind.bits .u64) (IntKind.wrap .u64 (a4 - 1))).toNat))) - a2))))) ([] : List (Int)))) (dnat (IntKind.wrap .i64 (a1 + (IntKind.wrap .i64 ((IntKind.wrap .i64 (IntKind.wrap .u64 ((BitVec.ofInt (IntKind.bits .u64) y2 &&& BitVec.ofInt (IntKind.bits .u64) (IntKind.wrap .u64 (a4 - 1))).toNat))) - a2))))) (dget a0 (dnat a5) ([] : List (Int)))), a1, a2, y1, a4, (IntKind.wrap .i64 (a5 + 1)), ()))
    | false => match idx a0 (IntKind.wrap .i64 (a1 + (IntKind.wrap .i64 (IntKind.wrap .u64 ((BitVec.ofInt (IntKind.bits .u64) y2 &&& BitVec.ofInt (IntKind.bits .u64) (IntKind.wrap .u64 (a4 - 1))).toNat))))) with
     | none => none
     | some x7 => match idx a0 a5 with
      | none => none
      | some x8 => match idx a0 a5 with
       | none => none
       | some x9 => match idx (dset a0 (dnat a5) (dget a0 (dnat (IntKind.wrap .i64 (a1 + (IntKind.wrap .i64 (IntKind.wrap .u64 ((BitVec.ofInt (IntKind.bits .u64) y2 &&& BitVec.ofInt (IntKind.bits .u64) (IntKind.wrap .u64 (a4 - 1))).toNat)))))) ([] : List (Int)))) (IntKind.wrap .i64 (a1 + (IntKind.wrap .i64 (IntKind.wrap .u64 ((BitVec.ofInt (IntKind.bits .u64) y2 &&& BitVec.ofInt (IntKind.bits .u64) (IntKind.wrap .u64 (a4 - 1))).toNat))))) with
        | none => none
        | some x10 => some (.inl ((dset (dset a0 (dnat a5) (dget a0 (dnat (IntKind.wrap .i64 (a1 + (IntKind.wrap .i64 (IntKind.wrap .u64 ((BitVec.ofInt (IntKind.bits .u64) y2 &&& BitVec.ofInt (IntKind.bits .u64) (IntKind.wrap .u64 (a4 - 1))).toNat)))))) ([] : List (Int)))) (dnat (IntKind.wrap .i64 (a1 + (IntKind.wrap .i64 (IntKind.wrap .u64 ((BitVec.ofInt (IntKind.bits .u64) y2 &&& BitVec.ofInt (IntKind.bits .u64) (IntKind.wrap .u64 (a4 - 1))).toNat)))))) (dget a0 (dnat a5) ([] : List (Int)))), a1, a2, y1, a4, (IntKind.wrap .i64 (a5 + 1)), ()))
  | false => some (.inr (.inl (a0, ())))
def breakL_d [Lk] : (List (List Int) × Int × Int × Unit) → Option ((List (List Int) × Unit)) := fun (a0, a1, a2, _) =>
 match (ile 8 (IntKind.wrap .i64 (a2 - a1))) with
 | true => match nextPow ((IntKind.wrap .i64 (a2 - a1)), ()) with
  | none => none
  | some (y0, _) => match quo? .i64 (IntKind.wrap .i64 (a2 - a1)) 4 with
   | none => none
   | some x1 => match iterL breakL_s0 many (a0, a1, (IntKind.wrap .i64 (a2 - a1)), (IntKind.wrap .u64 (IntKind.wrap .i64 (a2 - a1))), y0, (IntKind.wrap .i64 ((IntKind.wrap .i64 (a1 + (IntKind.wrap .i64 (x1 * 2)))) - 1)), ()) with
    | none => none
    | some r => match r with
     | .inl (o2, _) => some (o2, ())
     | .inr _ => none
 | false => some (a0, ())
def breakL [Lk] := fun v => Lk.f (breakL_d v)
theorem breakL_eq v : breakL v = breakL_d v := lock_eq _
-- slices.order2CmpFunc[[]int]
abbrev order2L_i : Items := [(.tmp 0, .own 28 (.slice (.int .i64))), (.tmp 1, .di), (.tmp 2, .di), (.tmp 3, .box 1), (.cell 1 0, .di), (.tmp 4, .clo 84 [])]
abbrev order2L_o : Items := [(.obj 0, .own 28 (.slice (.int .i64))), (.obj 1, .box 1), (.cell 1 0, .di), (.tmp 0, .di), (.tmp 1, .di)]
abbrev order2L_r : List RS := [.one, .one]
def order2L_d [Lk] : (List (List Int) × Int × Int × Int × Unit) → Option ((List (List Int) × Int × Int × Int × Unit)) := fun (a0, a1, a2, a3, _) =>
 match idx a0 a2 with
 | none => none
 | some x0 => match idx a0 a1 with
  | none => none
  | some x1 => match with1 ((dget a0 (dnat a2) ([] : List (Int))), (dget a0 (dnat a1) ([] : List (Int))), ()) with
   | none => none
   | some (y2, _) => match (ilt y2 0) with
    | true => some (a0, (IntKind.wrap .i64 (a3 + 1)), a2, a1, ())
    | false => some (a0, a3, a1, a2, ())
def order2L [Lk] := fun v => Lk.f (order2L_d v)
theorem order2L_eq v : order2L v = order2L_d v := lock_eq _
-- slices.medianCmpFunc[[]int]
abbrev medianL_i : Items := [(.tmp 0, .own 28 (.slice (.int .i64))), (.tmp 1, .di), (.tmp 2, .di), (.tmp 3, .di), (.tmp 4, .box 1), (.cell 1 0, .di), (.tmp 5, .clo 84 [])]
abbrev medianL_o : Items := [(.obj 0, .own 28 (.slice (.int .i64))), (.obj 1, .box 1), (.cell 1 0, .di), (.tmp 0, .di)]
abbrev medianL_r : List RS := [.one]
def medianL_d [Lk] : (List (List Int) × Int × Int × Int × Int × Unit) → Option ((List (List Int) × Int × Int × Unit)) := fun (a0, a1, a2, a3, a4, _) =>
 match order2L (a0, a1, a2, a4, ()) with
 | none => none
 | some (y0, y1, y2, y3, _) => match order2L (y0, y3, a3, y1, ()) with
  | none => none
  | some (y4, y5, y6, y7, _) => match order2L (y4, y2, y6, y5, ()) with
   | none => none
   | some (y8, y9, y10, y11, _) => some (y8, y9, y11, ())
def medianL [Lk] := fun v => Lk.f (medianL_d v)
theorem medianL_eq v : medianL v = medianL_d v := lock_eq _
-- slices.medianAdjacentCmpFunc[[]int]
abbrev medAdjL_i : Items := [(.tmp 0, .own 28 (.slice (.int .i64))), (.tmp 1, .di), (.tmp 2, .box 1), (.cell 1 0, .di), (.tmp 3, .clo 84 [])]
abbrev medAdjL_o : Items := [(.obj 0, .own 28 (.slice (.int .i64))), (.obj 1, .box 1), (.cell 1 0, .di), (.tmp 0, .di)]
abbrev medAdjL_r : List RS := [.one]
def medAdjL_d [Lk] : (List (List Int) × Int × Int × Unit) → Option ((List (List Int) × Int × Int × Unit)) := fun (a0, a1, a2, _) =>
 match medianL (a0, (IntKind.wrap .i64 (a1 - 1)), a1, (IntKind.wrap .i64 (a1 + 1)), a2, ()) with
 | none => none
 | some (y0, y1, y2, _) => some (y0, y1, y2, ())
def medAdjL [Lk] := fun v => Lk.f (medAdjL_d v)
theorem medAdjL_eq v : medAdjL v = medAdjL_d v := lock_eq _
-- slices.choosePivotCmpFunc[[]int]
abbrev pivotL_i : Items := [(.tmp 0, .own 28 (.slice (.int .i64))), (.tmp 1, .di), (.tmp 2, .di), (.tmp 3, .clo 84 [])]
abbrev pivotL_o : Items := [(.obj 0, .own 28 (.slice (.int .i64))), (.tmp 0, .di), (.tmp 1, .di)]
abbrev pivotL_r : List RS := [.one, .one]
def pivotL_d [Lk] : (List (List Int) × Int × Int × Unit) → Option ((List (List Int) × Int × Int × Unit)) := fun (a0, a1, a2, _) =>
 match quo? .i64 (IntKind.wrap .i64 (a2 - a1)) 4 with
 | none => none
 | some x0 => match quo? .i64 (IntKind.wrap .i64 (a2 - a1)) 4 with
  | none => none
  | some x1 => match quo? .i64 (IntKind.wrap .i64 (a2 - a1)) 4 with
   | none => none
   | some x2 => match (ile 8 (IntKind.wrap .i64 (a2 - a1))) with
    | true => match (ile 50 (IntKind.wrap .i64 (a2 - a1))) with
     | true => match medAdjL (a0, (IntKind.wrap .i64 (a1 + (IntKind.wrap .i64 (x0 * 1)))), 0, ()) with
      | none => none
      | some (y3, y4, y5, _) => match medAdjL (y3, (IntKind.wrap .i64 (a1 + (IntKind.wrap .i64 (x1 * 2)))), y4, ()) with
       | none => none
       | some (y6, y7, y8, _) => match medAdjL (y6, (IntKind.wrap .i64 (a1 + (IntKind.wrap .i64 (x2 * 3)))), y7, ()) with
        | none => none
        | some (y9, y10, y11, _) => match medianL (y9, y5, y8, y11, y10, ()) with
         | none => none
         | some (y12, y13, y14, _) => match (ieq y13 0) with
          | true => some (y12, y14, 1, ())
          | false => match (ieq y13 12) with
           | true => some (y12, y14, 2, ())
           | false => some (y12, y14, 0, ())
     | false => match medianL (a0, (IntKind.wrap .i64 (a1 + (IntKind.wrap .i64 (x0 * 1)))), (IntKind.wrap .i64 (a1 + (IntKind.wrap .i64 (x1 * 2)))), (IntKind.wrap .i64 (a1 + (IntKind.wrap .i64 (x2 * 3)))), 0, ()) with
      | none => none
      | some (y15, y16, y17, _) => match (ieq y16 0) with
       | true => some (y15, y17, 1, ())
       | false => match (ieq y16 12) with
        | true => some (y15, y17, 2, ())
        | false => some (y15, y17, 0, ())
    | false => match (ieq 0 0) with
     | true => some (a0, (IntKind.wrap .i64 (a1 + (IntKind.wrap .i64 (x1 * 2)))), 1, ())
     | false => match (ieq 0 12) with
      | true => some (a0, (IntKind.wrap .i64 (a1 + (IntKind.wrap .i64 (x1 * 2)))), 2, ())
      | false => some (a0, (IntKind.wrap .i64 (a1 + (IntKind.wrap .i64 (x1 * 2)))), 0, ())
def pivotL [Lk] := fun v => Lk.f (pivotL_d v)
theorem pivotL_eq v : pivotL v = pivotL_d v := lock_eq _
-- slices.reverseRangeCmpFunc[[]int]
abbrev revL_i : Items := [(.tmp 0, .own 28 (.slice (.int .i64))), (.tmp 1, .di), (.tmp 2, .di), (.tmp 3, .clo 84 [])]
abbrev revL_o : Items := [(.obj 0, .own 28 (.slice (.int .i64)))]
abbrev revL_r : List RS := []
abbrev revL_i0 : Items := [(.obj 0, .own 28 (.slice (.int .i64))), (.tmp 0, .own' 0), (.tmp 8, .di), (.tmp 9, .di)]
abbrev revL_o0 : Outs := [(.exit 0, [(.obj 0, .own 28 (.slice (.int .i64)))])]
def revL_s0 [Lk] : (List (List Int) × Int × Int × Unit) → Option ((List (List Int) × Int × Int × Unit) ⊕ (List (List Int) × Unit) ⊕ Unit) := fun (a0, a1, a2, _) =>
 match (ilt a1 a2) with
 | true => match idx a0 a2 with
  | none => none
  | some x0 => match idx a0 a1 with
   | none => none
   | some x1 => match idx a0 a1 with
    | none => none
    | some x2 => match idx (dset a0 (dnat a1) (dget a0 (dnat a2) ([] : List (Int)))) a2 with
     | none => none
     | some x3 => some (.inl ((dset (dset a0 (dnat a1) (dget a0 (dnat a2) ([] : List (Int)))) (dnat a2) (dget a0 (dnat a1) ([] : List (Int)))), (IntKind.wrap .i64 (a1 + 1)), (IntKind.wrap .i64 (a2 - 1)), ()))
 | false => some (.inr (.inl (a0, ())))
def revL_d [Lk] : (List (List Int) × Int × Int × Unit) → Option ((List (List Int) × Unit)) := fun (a0, a1, a2, _) =>
 match iterL revL_s0 many (a0, a1, (IntKind.wrap .i64 (a2 - 1)), ()) with
 | none => none
 | some r => match r with
  | .inl (o0, _) => some (o0, ())
  | .inr _ => none
def revL [Lk] := fun v => Lk.f (revL_d v)
theorem revL_eq v : revL v = revL_d v := lock_eq _
-- slices.partialInsertionSortCmpFunc[[]int]
abbrev partInsL_i : Items := [(.tmp 0, .own 28 (.slice (.int .i64))), (.tmp 1, .di), (.tmp 2, .di), (.tmp 3, .clo 84 [])]
abbrev partInsL_o : Items := [(.obj 0, .own 28 (.slice (.int .i64))), (.tmp 0, .dat .bool)]
abbrev partInsL_r : List RS := [.one]
abbrev partInsL_i3 : Items := [(.obj 0, .own 28 (.slice (.int .i64))), (.tmp 0, .own' 0), (.tmp 1, .di), (.tmp 2, .di), (.tmp 3, .clo 84 []), (.tmp 9, .di), (.tmp 10, .di), (.tmp 12, .di)]
abbrev partInsL_o3 : Outs := [(.exit 6, [(.obj 0, .own 28 (.slice (.int .i64))), (.tmp 0, .own' 0), (.tmp 1, .di), (.tmp 2, .di), (.tmp 3, .clo 84 []), (.tmp 9, .di), (.tmp 10, .di)])]
def partInsL_s3 [Lk] : (List (List Int) × Int × Int × Int × Int × Int × Unit) → Option ((List (List Int) × Int × Int × Int × Int × Int × Unit) ⊕ (List (List Int) × Int × Int × Int × Int × Unit) ⊕ Unit) := fun (a0, a1, a2, a3, a4, a5, _) =>
 match (ilt a5 a2) with
 | true => match idx a0 a5 with
  | none => none
  | some x0 => match idx a0 (IntKind.wrap .i64 (a5 - 1)) with
   | none => none
   | some x1 => match with1 ((dget a0 (dnat a5) ([] : List (Int))), (dget a0 (dnat (IntKind.wrap .i64 (a5 - 1))) ([] : List (Int))), ()) with
    | none => none
    | some (y2, _) => match (!(ilt y2 0)) with
     | true => some (.inr (.inl (a0, a1, a2, a3, a4, ())))
     | false => match idx a0 (IntKind.wrap .i64 (a5 - 1)) with
      | none => none
      | some x3 => match idx a0 a5 with
       | none => none
       | some x4 => match idx a0 a5 with
        | none => none
        | some x5 => match idx (dset a0 (dnat a5) (dget a0 (dnat (IntKind.wrap .i64 (a5 - 1))) ([] : List (Int)))) (IntKind.wrap .i64 (a5 - 1)) with
         | none => none
         | some x6 => some (.inl ((dset (dset a0 (dnat a5) (dget a0 (dnat (IntKind.wrap .i64 (a5 - 1))) ([] : List (Int)))) (dnat (IntKind.wrap .i64 (a5 - 1))) (dget a0 (dnat a5) ([] : List (Int)))), a1, a2, a3, a4, (IntKind.wrap .i64 (a5 + 1)), ()))
 | false => some (.inr (.inl (a0, a1, a2, a3, a4, ())))
abbrev partInsL_i2 : Items := [(.obj 0, .own 28 (.slice (.int .i64))), (.tmp 0, .own' 0), (.tmp 1, .di), (.tmp 2, .di), (.tmp 3, .clo 84 []), (.tmp 9, .di), (.tmp 10, .di), (.tmp 11, .di)]
abbrev partInsL_o2 : Outs := [(.exit 4, [(.obj 0, .own 28 (.slice (.int .i64))), (.tmp 0, .own' 0), (.tmp 1, .di), (.tmp 2, .di), (.tmp 3, .clo 84 []), (.tmp 9, .di), (.tmp 10, .di)])]
def partInsL_s2 [Lk] : (List (List Int) × Int × Int × Int × Int × Int × Unit) → Option ((List (List Int) × Int × Int × Int × Int × Int × Unit) ⊕ (List (List Int) × Int × Int × Int × Int × Unit) ⊕ Unit) := fun (a0, a1, a2, a3, a4, a5, _) =>
 match (ile 1 a5) with
 | true => match idx a0 a5 with
  | none => none
  | some x0 => match idx a0 (IntKind.wrap .i64 (a5 - 1)) with
   | none => none
   | some x1 => match with1 ((dget a0 (dnat a5) ([] : List (Int))), (dget a0 (dnat (IntKind.wrap .i64 (a5 - 1))) ([] : List (Int))), ()) with
    | none => none
    | some (y2, _) => match (!(ilt y2 0)) with
     | true => some (.inr (.inl (a0, a1, a2, a3, a4, ())))
     | false => match idx a0 (IntKind.wrap .i64 (a5 - 1)) with
      | none => none
      | some x3 => match idx a0 a5 with
       | none => none
       | some x4 => match idx a0 a5 with
        | none => none
        | some x5 => match idx (dset a0 (dnat a5) (dget a0 (dnat (IntKind.wrap .i64 (a5 - 1))) ([] : List (Int)))) (IntKind.wrap .i64 (a5 - 1)) with
         | none => none
         | some x6 => some (.inl ((dset (dset a0 (dnat a5) (dget a0 (dnat (IntKind.wrap .i64 (a5 - 1))) ([] : List (Int)))) (dnat (IntKind.wrap .i64 (a5 - 1))) (dget a0 (dnat a5) ([] : List (Int)))), a1, a2, a3, a4, (IntKind.wrap .i64 (a5 - 1)), ()))
 | false => some (.inr (.inl (a0, a1, a2, a3, a4, ())))
abbrev partInsL_i1 : Items := [(.obj 0, .own 28 (.slice (.int .i64))), (.tmp 0, .own' 0), (.tmp 1, .di), (.tmp 2, .di), (.tmp 3, .clo 84 []), (.tmp 9, .di), (.tmp 10, .di)]
abbrev partInsL_o1 : Outs := [(.exit 2, [(.obj 0, .own 28 (.slice (.int .i64))), (.tmp 0, .own' 0), (.tmp 1, .di), (.tmp 2, .di), (.tmp 3, .clo 84 []), (.tmp 9, .di), (.tmp 10, .di)])]
def partInsL_s1 [Lk] : (List (List Int) × Int × Int × Int × Int × Unit) → Option ((List (List Int) × Int × Int × Int × Int × Unit) ⊕ (List (List Int) × Int × Int × Int × Int × Unit) ⊕ Unit) := fun (a0, a1, a2, a3, a4, _) =>
 match (ilt a3 a2) with
 | true => match idx a0 a3 with
  | none => none
  | some x0 => match idx a0 (IntKind.wrap .i64 (a3 - 1)) with
   | none => none
   | some x1 => match with1 ((dget a0 (dnat a3) ([] : List (Int))), (dget a0 (dnat (IntKind.wrap .i64 (a3 - 1))) ([] : List (Int))), ()) with
    | none => none
    | some (y2, _) => match (!(ilt y2 0)) with
     | true => some (.inl (a0, a1, a2, (IntKind.wrap .i64 (a3 + 1)), a4, ()))
     | false => some (.inr (.inl (a0, a1, a2, a3, a4, ())))
 | false => some (.inr (.inl (a0, a1, a2, a3, a4, ())))
abbrev partInsL_i0 : Items := [(.obj 0, .own 28 (.slice (.int .i64))), (.tmp 0, .own' 0), (.tmp 1, .di), (.tmp 2, .di), (.tmp 3, .clo 84 []), (.tmp 9, .di), (.tmp 10, .di)]
abbrev partInsL_o0 : Outs := [(.ret, [(.obj 0, .own 28 (.slice (.int .i64))), (.tmp 8, .dat .bool)]), (.exit 0, [(.obj 0, .own 28 (.slice (.int .i64)))])]
def partInsL_s0 [Lk] : (List (List Int) × Int × Int × Int × Int × Unit) → Option ((List (List Int) × Int × Int × Int × Int × Unit) ⊕ (List (List Int) × Bool × Unit) ⊕ (List (List Int) × Unit) ⊕ Unit) := fun (a0, a1, a2, a3, a4, _) =>
 match (ilt a4 5) with
 | true => match iterL partInsL_s1 many (a0, a1, a2, a3, a4, ()) with
  | none => none
  | some r => match r with
   | .inl (o0, o1, o2, o3, o4, _) => match (ieq o3 o2) with
    | true => some (.inr (.inl (o0, true, ())))
    | false => match (ilt (IntKind.wrap .i64 (o2 - o1)) 50) with
     | true => some (.inr (.inl (o0, false, ())))
     | false => match idx o0 (IntKind.wrap .i64 (o3 - 1)) with
      | none => none
      | some x5 => match idx o0 o3 with
       | none => none
       | some x6 => match idx o0 o3 with
        | none => none
        | some x7 => match idx (dset o0 (dnat o3) (dget o0 (dnat (IntKind.wrap .i64 (o3 - 1))) ([] : List (Int)))) (IntKind.wrap .i64 (o3 - 1)) with
         | none => none
         | some x8 => match (ile 2 (IntKind.wrap .i64 (o3 - o1))) with
          | true => match iterL partInsL_s2 many ((dset (dset o0 (dnat o3) (dget o0 (dnat (IntKind.wrap .i64 (o3 - 1))) ([] : List (Int)))) (dnat (IntKind.wrap .i64 (o3 - 1))) (dget o0 (dnat o3) ([] : List (Int)))), o1, o2, o3, o4, (IntKind.wrap .i64 (o3 - 1)), ()) with
           | none => none
           | some r => match r with
            | .inl (o9, o10, o11, o12, o13, _) => match (ile 2 (IntKind.wrap .i64 (o11 - o12))) with
             | true => match iterL partInsL_s3 many (o9, o10, o11, o12, o13, (IntKind.wrap .i64 (o12 + 1)), ()) with
              | none => none
              | some r => match r with
               | .inl (o14, o15, o16, o17, o18, _) => some (.inl (o14, o15, o16, o17, (IntKind.wrap .i64 (o18 + 1)), ()))
               | .inr _ => none
             | false => some (.inl (o9, o10, o11, o12, (IntKind.wrap .i64 (o13 + 1)), ()))
            | .inr _ => none
          | false => match (ile 2 (IntKind.wrap .i64 (o2 - o3))) with
           | true => match iterL partInsL_s3 many ((dset (dset o0 (dnat o3) (dget o0 (dnat (IntKind.wrap .i64 (o3 - 1))) ([] : List (Int)))) (dnat (IntKind.wrap .i64 (o3 - 1))) (dget o0 (dnat o3) ([] : List (Int)))), o1, o2, o3, o4, (IntKind.wrap .i64 (o3 + 1)), ()) with
            | none => none
            | some r => match r with
             | .inl (o19, o20, o21, o22, o23, _) => some (.inl (o19, o20, o21, o22, (IntKind.wrap .i64 (o23 + 1)), ()))
             | .inr _ => none
           | false => some (.inl ((dset (dset o0 (dnat o3) (dget o0 (dnat (IntKind.wrap .i64 (o3 - 1))) ([] : List (Int)))) (dnat (IntKind.wrap .i64 (o3 - 1))) (dget o0 (dnat o3) ([] : List (Int)))), o1, o2, o3, (IntKind.wrap .i64 (o4 + 1)), ()))
   | .inr _ => none
 | false => some (.inr (.inr (.inl (a0, ()))))
def partInsL_d [Lk] : (List (List Int) × Int × Int × Unit) → Option ((List (List Int) × Bool × Unit)) := fun (a0, a1, a2, _) =>
 match iterL partInsL_s0 many (a0, a1, a2, (IntKind.wrap .i64 (a1 + 1)), 0, ()) with
 | none => none
 | some r => match r with
  | .inl (o0, o1, _) => some (o0, o1, ())
  | .inr r => match r with
   | .inl (o2, _) => some (o2, false, ())
   | .inr _ => none
def partInsL [Lk] := fun v => Lk.f (partInsL_d v)
theorem partInsL_eq v : partInsL v = partInsL_d v := lock_eq _
-- slices.partitionEqualCmpFunc[[]int]
abbrev partEqL_i : Items := [(.tmp 0, .own 28 (.slice (.int .i64))), (.tmp 1, .di), (.tmp 2, .di), (.tmp 3, .di), (.tmp 4, .clo 84 [])]
abbrev partEqL_o : Items := [(.obj 0, .own 28 (.slice (.int .i64))), (.tmp 0, .di)]
abbrev partEqL_r : List RS := [.one]
abbrev partEqL_i2 : Items := [(.obj 0, .own 28 (.slice (.int .i64))), (.tmp 0, .own' 0), (.tmp 1, .di), (.tmp 4, .clo 84 []), (.tmp 11, .di), (.tmp 12, .di)]
abbrev partEqL_o2 : Outs := [(.exit 4, [(.obj 0, .own 28 (.slice (.int .i64))), (.tmp 0, .own' 0), (.tmp 1, .di), (.tmp 4, .clo 84 []), (.tmp 11, .di), (.tmp 12, .di)])]
def partEqL_s2 [Lk] : (List (List Int) × Int × Int × Int × Unit) → Option ((List (List Int) × Int × Int × Int × Unit) ⊕ (List (List Int) × Int × Int × Int × Unit) ⊕ Unit) := fun (a0, a1, a2, a3, _) =>
 match (ile a2 a3) with
 | true => match idx a0 a1 with
  | none => none
  | some x0 => match idx a0 a3 with
   | none => none
   | some x1 => match with1 ((dget a0 (dnat a1) ([] : List (Int))), (dget a0 (dnat a3) ([] : List (Int))), ()) with
    | none => none
    | some (y2, _) => match (ilt y2 0) with
     | true => some (.inl (a0, a1, a2, (IntKind.wrap .i64 (a3 - 1)), ()))
     | false => some (.inr (.inl (a0, a1, a2, a3, ())))
 | false => some (.inr (.inl (a0, a1, a2, a3, ())))
abbrev partEqL_i1 : Items := [(.obj 0, .own 28 (.slice (.int .i64))), (.tmp 0, .own' 0), (.tmp 1, .di), (.tmp 4, .clo 84 []), (.tmp 11, .di), (.tmp 12, .di)]
abbrev partEqL_o1 : Outs := [(.exit 2, [(.obj 0, .own 28 (.slice (.int .i64))), (.tmp 0, .own' 0), (.tmp 1, .di), (.tmp 4, .clo 84 []), (.tmp 11, .di), (.tmp 12, .di)])]
def partEqL_s1 [Lk] : (List (List Int) × Int × Int × Int × Unit) → Option ((List (List Int) × Int × Int × Int × Unit) ⊕ (List (List Int) × Int × Int × Int × Unit) ⊕ Unit) := fun (a0, a1, a2, a3, _) =>
 match (ile a2 a3) with
 | true => match idx a0 a1 with
  | none => none
  | some x0 => match idx a0 a2 with
   | none => none
   | some x1 => match with1 ((dget a0 (dnat a1) ([] : List (Int))), (dget a0 (dnat a2) ([] : List (Int))), ()) with
    | none => none
    | some (y2, _) => match (!(ilt y2 0)) with
     | true => some (.inl (a0, a1, (IntKind.wrap .i64 (a2 + 1)), a3, ()))
     | false => some (.inr (.inl (a0, a1, a2, a3, ())))
 | false => some (.inr (.inl (a0, a1, a2, a3, ())))
abbrev partEqL_i0 : Items := [(.obj 0, .own 28 (.slice (.int .i64))), (.tmp 0, .own' 0), (.tmp 1, .di), (.tmp 4, .clo 84 []), (.tmp 11, .di), (.tmp 12, .di)]
abbrev partEqL_o0 : Outs := [(.exit 0, [(.obj 0, .own 28 (.slice (.int .i64))), (.tmp 11, .di)])]
def partEqL_s0 [Lk] : (List (List Int) × Int × Int × Int × Unit) → Option ((List (List Int) × Int × Int × Int × Unit) ⊕ (List (List Int) × Int × Unit) ⊕ Unit) := fun (a0, a1, a2, a3, _) =>
 match iterL partEqL_s1 many (a0, a1, a2, a3, ()) with
 | none => none
 | some r => match r with
  | .inl (o0, o1, o2, o3, _) => match iterL partEqL_s2 many (o0, o1, o2, o3, ()) with
   | none => none
   | some r => match r with
    | .inl (o4, o5, o6, o7, _) => match (ilt o7 o6) with
     | true => some (.inr (.inl (o4, o6, ())))
     | false => match idx o4 o7 with
      | none => none
      | some x8 => match idx o4 o6 with
       | none => none
       | some x9 => match idx o4 o6 with
        | none => none
        | some x10 => match idx (dset o4 (dnat o6) (dget o4 (dnat o7) ([] : List (Int)))) o7 with
         | none => none
         | some x11 => some (.inl ((dset (dset o4 (dnat o6) (dget o4 (dnat o7) ([] : List (Int)))) (dnat o7) (dget o4 (dnat o6) ([] : List (Int)))), o5, (IntKind.wrap .i64 (o6 + 1)), (IntKind.wrap .i64 (o7 - 1)), ()))
    | .inr _ => none
  | .inr _ => none
def partEqL_d [Lk] : (List (List Int) × Int × Int × Int × Unit) → Option ((List (List Int) × Int × Unit)) := fun (a0, a1, a2, a3, _) =>
 match idx a0 a3 with
 | none => none
 | some x0 => match idx a0 a1 with
  | none => none
  | some x1 => match idx a0 a1 with
   | none => none
   | some x2 => match idx (dset a0 (dnat a1) (dget a0 (dnat a3) ([] : List (Int)))) a3 with
    | none => none
    | some x3 => match iterL partEqL_s0 many ((dset (dset a0 (dnat a1) (dget a0 (dnat a3) ([] : List (Int)))) (dnat a3) (dget a0 (dnat a1) ([] : List (Int)))), a1, (IntKind.wrap .i64 (a1 + 1)), (IntKind.wrap .i64 (a2 - 1)), ()) with
     | none => none
     | some r => match r with
      | .inl (o4, o5, _) => some (o4, o5, ())
      | .inr _ => none
def partEqL [Lk] := fun v => Lk.f (partEqL_d v)
theorem partEqL_eq v : partEqL v = partEqL_d v := lock_eq _
-- slices.partitionCmpFunc[[]int]
abbrev partL_i : Items := [(.tmp 0, .own 28 (.slice (.int .i64))), (.tmp 1, .di), (.tmp 2, .di), (.tmp 3, .di), (.tmp 4, .clo 84 [])]
abbrev partL_o : Items := [(.obj 0, .own 28 (.slice (.int .i64))), (.tmp 0, .di), (.tmp 1, .dat .bool)]
abbrev partL_r : List RS := [.one, .one]
abbrev partL_i4 : Items := [(.obj 0, .own 28 (.slice (.int .i64))), (.tmp 0, .own' 0), (.tmp 1, .di), (.tmp 4, .clo 84 []), (.tmp 12, .di), (.tmp 13, .di)]
abbrev partL_o4 : Outs := [(.exit 8, [(.obj 0, .own 28 (.slice (.int .i64))), (.tmp 0, .own' 0), (.tmp 1, .di), (.tmp 4, .clo 84 []), (.tmp 12, .di), (.tmp 13, .di)])]
def partL_s4 [Lk] : (List (List Int) × Int × Int × Int × Unit) → Option ((List (List Int) × Int × Int × Int × Unit) ⊕ (List (List Int) × Int × Int × Int × Unit) ⊕ Unit) := fun (a0, a1, a2, a3, _) =>
 match (ile a2 a3) with
 | true => match idx a0 a3 with
  | none => none
  | some x0 => match idx a0 a1 with
   | none => none
   | some x1 => match with1 ((dget a0 (dnat a3) ([] : List (Int))), (dget a0 (dnat a1) ([] : List (Int))), ()) with
    | none => none
    | some (y2, _) => match (!(ilt y2 0)) with
     | true => some (.inl (a0, a1, a2, (IntKind.wrap .i64 (a3 - 1)), ()))
     | false => some (.inr (.inl (a0, a1, a2, a3, ())))
 | false => some (.inr (.inl (a0, a1, a2, a3, ())))
abbrev partL_i3 : Items := [(.obj 0, .own 28 (.slice (.int .i64))), (.tmp 0, .own' 0), (.tmp 1, .di), (.tmp 4, .clo 84 []), (.tmp 12, .di), (.tmp 13, .di)]
abbrev partL_o3 : Outs := [(.exit 6, [(.obj 0, .own 28 (.slice (.int .i64))), (.tmp 0, .own' 0), (.tmp 1, .di), (.tmp 4, .clo 84 []), (.tmp 12, .di), (.tmp 13, .di)])]
def partL_s3 [Lk] : (List (List Int) × Int × Int × Int × Unit) → Option ((List (List Int) × Int × Int × Int × Unit) ⊕ (List (List Int) × Int × Int × Int × Unit) ⊕ Unit) := fun (a0, a1, a2, a3, _) =>
 match (ile a2 a3) with
 | true => match idx a0 a2 with
  | none => none
  | some x0 => match idx a0 a1 with
   | none => none
   | some x1 => match with1 ((dget a0 (dnat a2) ([] : List (Int))), (dget a0 (dnat a1) ([] : List (Int))), ()) with
    | none => none
    | some (y2, _) => match (ilt y2 0) with
     | true => some (.inl (a0, a1, (IntKind.wrap .i64 (a2 + 1)), a3, ()))
     | false => some (.inr (.inl (a0, a1, a2, a3, ())))
 | false => some (.inr (.inl (a0, a1, a2, a3, ())))
abbrev partL_i2 : Items := [(.obj 0, .own 28 (.slice (.int .i64))), (.tmp 0, .own' 0), (.tmp 1, .di), (.tmp 4, .clo 84 []), (.tmp 12, .di), (.tmp 13, .di)]
abbrev partL_o2 : Outs := [(.exit 4, [(.obj 0, .own 28 (.slice (.int .i64))), (.tmp 0, .own' 0), (.tmp 1, .di), (.tmp 13, .di)])]
def partL_s2 [Lk] : (List (List Int) × Int × Int × Int × Unit) → Option ((List (List Int) × Int × Int × Int × Unit) ⊕ (List (List Int) × Int × Int × Unit) ⊕ Unit) := fun (a0, a1, a2, a3, _) =>
 match iterL partL_s3 many (a0, a1, a2, a3, ()) with
 | none => none
 | some r => match r with
  | .inl (o0, o1, o2, o3, _) => match iterL partL_s4 many (o0, o1, o2, o3, ()) with
   | none => none
   | some r => match r with
    | .inl (o4, o5, o6, o7, _) => match (ilt o7 o6) with
     | true => some (.inr (.inl (o4, o5, o7, ())))
     | false => match idx o4 o7 with
      | none => none
      | some x8 => match idx o4 o6 with
       | none => none
       | some x9 => match idx o4 o6 with
        | none => none
        | some x10 => match idx (dset o4 (dnat o6) (dget o4 (dnat o7) ([] : List (Int)))) o7 with
         | none => none
         | some x11 => some (.inl ((dset (dset o4 (dnat o6) (dget o4 (dnat o7) ([] : List (Int)))) (dnat o7) (dget o4 (dnat o6) ([] : List (Int)))), o5, (IntKind.wrap .i64 (o6 + 1)), (IntKind.wrap .i64 (o7 - 1)), ()))
    | .inr _ => none
  | .inr _ => none
abbrev partL_i1 : Items := [(.obj 0, .own 28 (.slice (.int .i64))), (.tmp 0, .own' 0), (.tmp 1, .di), (.tmp 4, .clo 84 []), (.tmp 12, .di), (.tmp 13, .di)]
abbrev partL_o1 : Outs := [(.exit 2, [(.obj 0, .own 28 (.slice (.int .i64))), (.tmp 0, .own' 0), (.tmp 1, .di), (.tmp 4, .clo 84 []), (.tmp 12, .di), (.tmp 13, .di)])]
def partL_s1 [Lk] : (List (List Int) × Int × Int × Int × Unit) → Option ((List (List Int) × Int × Int × Int × Unit) ⊕ (List (List Int) × Int × Int × Int × Unit) ⊕ Unit) := fun (a0, a1, a2, a3, _) =>
 match (ile a2 a3) with
 | true => match idx a0 a3 with
  | none => none
  | some x0 => match idx a0 a1 with
   | none => none
   | some x1 => match with1 ((dget a0 (dnat a3) ([] : List (Int))), (dget a0 (dnat a1) ([] : List (Int))), ()) with
    | none => none
    | some (y2, _) => match (!(ilt y2 0)) with
     | true => some (.inl (a0, a1, a2, (IntKind.wrap .i64 (a3 - 1)), ()))
     | false => some (.inr (.inl (a0, a1, a2, a3, ())))
 | false => some (.inr (.inl (a0, a1, a2, a3, ())))
abbrev partL_i0 : Items := [(.obj 0, .own 28 (.slice (.int .i64))), (.tmp 0, .own' 0), (.tmp 1, .di), (.tmp 4, .clo 84 []), (.tmp 12, .di), (.tmp 13, .di)]
abbrev partL_o0 : Outs := [(.exit 0, [(.obj 0, .own 28 (.slice (.int .i64))), (.tmp 0, .own' 0), (.tmp 1, .di), (.tmp 4, .clo 84 []), (.tmp 12, .di), (.tmp 13, .di)])]
def partL_s0 [Lk] : (List (List Int) × Int × Int × Int × Unit) → Option ((List (List Int) × Int × Int × Int × Unit) ⊕ (List (List Int) × Int × Int × Int × Unit) ⊕ Unit) := fun (a0, a1, a2, a3, _) =>
 match (ile a2 a3) with
 | true => match idx a0 a2 with
  | none => none
  | some x0 => match idx a0 a1 with
   | none => none
   | some x1 => match with1 ((dget a0 (dnat a2) ([] : List (Int))), (dget a0 (dnat a1) ([] : List (Int))), ()) with
    | none => none
    | some (y2, _) => match (ilt y2 0) with
     | true => some (.inl (a0, a1, (IntKind.wrap .i64 (a2 + 1)), a3, ()))
     | false => some (.inr (.inl (a0, a1, a2, a3, ())))
 | false => some (.inr (.inl (a0, a1, a2, a3, ())))
def partL_d [Lk] : (List (List Int) × Int × Int × Int × Unit) → Option ((List (List Int) × Int × Bool × Unit)) := fun (a0, a1, a2, a3, _) =>
 match idx a0 a3 with
 | none => none
 | some x0 => match idx a0 a1 with
  | none => none
  | some x1 => match idx a0 a1 with
   | none => none
   | some x2 => match idx (dset a0 (dnat a1) (dget a0 (dnat a3) ([] : List (Int)))) a3 with
    | none => none
    | some x3 => match iterL partL_s0 many ((dset (dset a0 (dnat a1) (dget a0 (dnat a3) ([] : List (Int)))) (dnat a3) (dget a0 (dnat a1) ([] : List (Int)))), a1, (IntKind.wrap .i64 (a1 + 1)), (IntKind.wrap .i64 (a2 - 1)), ()) with
     | none => none
     | some r => match r with
      | .inl (o4, o5, o6, o7, _) => match iterL partL_s1 many (o4, o5, o6, o7, ()) with
       | none => none
       | some r => match r with
        | .inl (o8, o9, o10, o11, _) => match (ilt o11 o10) with
         | true => match idx o8 o9 with
          | none => none
          | some x12 => match idx o8 o11 with
           | none => none
           | some x13 => match idx o8 o11 with
            | none => none
            | some x14 => match idx (dset o8 (dnat o11) (dget o8 (dnat o9) ([] : List (Int)))) o9 with
             | none => none
             | some x15 => some ((dset (dset o8 (dnat o11) (dget o8 (dnat o9) ([] : List (Int)))) (dnat o9) (dget o8 (dnat o11) ([] : List (Int)))), o11, true, ())
         | false => match idx o8 o11 with
          | none => none
          | some x16 => match idx o8 o10 with
           | none => none
           | some x17 => match idx o8 o10 with
            | none => none
            | some x18 => match idx (dset o8 (dnat o10) (dget o8 (dnat o11) ([] : List (Int)))) o11 with
             | none => none
             | some x19 => match iterL partL_s2 many ((dset (dset o8 (dnat o10) (dget o8 (dnat o11) ([] : List (Int)))) (dnat o11) (dget o8 (dnat o10) ([] : List (Int)))), o9, (IntKind.wrap .i64 (o10 + 1)), (IntKind.wrap .i64 (o11 - 1)), ()) with
              | none => none
              | some r => match r with
               | .inl (o20, o21, o22, _) => match idx o20 o21 with
                | none => none
                | some x23 => match idx o20 o22 with
                 | none => none
                 | some x24 => match idx o20 o22 with
                  | none => none
                  | some x25 => match idx (dset o20 (dnat o22) (dget o20 (dnat o21) ([] : List (Int)))) o21 with
                   | none => none
                   | some x26 => some ((dset (dset o20 (dnat o22) (dget o20 (dnat o21) ([] : List (Int)))) (dnat o21) (dget o20 (dnat o22) ([] : List (Int)))), o22, false, ())
               | .inr _ => none
        | .inr _ => none
      | .inr _ => none
def partL [Lk] := fun v => Lk.f (partL_d v)
theorem partL_eq v : partL v = partL_d v := lock_eq _
-- slices.pdqsortCmpFunc[[]int]
abbrev pdqL_i : Items := [(.tmp 0, .own 28 (.slice (.int .i64))), (.tmp 1, .di), (.tmp 2, .di), (.tmp 3, .di), (.tmp 4, .clo 84 [])]
abbrev pdqL_o : Items := [(.obj 0, .own 28 (.slice (.int .i64)))]
abbrev pdqL_r : List RS := []
abbrev pdqL_i0 : Items := [(.obj 0, .own 28 (.slice (.int .i64))), (.tmp 0, .own' 0), (.tmp 1, .di), (.tmp 2, .di), (.tmp 3, .di), (.tmp 4, .clo 84 []), (.tmp 10, .dat .bool), (.tmp 11, .dat .bool)]
abbrev pdqL_o0 : Outs := [(.ret, [(.obj 0, .own 28 (.slice (.int .i64)))])]
def pdqL_t [Lk] (self : (List (List Int) × Int × Int × Int × Unit) → Option ((List (List Int) × Unit))) (y7 : List (List Int)) (a1 a2 p l : Int) (a4 a5 : Bool) : Option ((List (List Int) × Int × Int × Int × Bool × Bool × Unit) ⊕ (List (List Int) × Unit) ⊕ Unit) :=
 match (ilt 0 a1) with
 | true => match idx y7 (IntKind.wrap .i64 (a1 - 1)) with
  | none => none
  | some x9 => match idx y7 p with
   | none => none
   | some x10 => match with1 ((dget y7 (dnat (IntKind.wrap .i64 (a1 - 1))) ([] : List (Int))), (dget y7 (dnat p) ([] : List (Int))), ()) with
    | none => none
    | some (y11, _) => match (!(ilt y11 0)) with
     | true => match partEqL (y7, a1, a2, p, ()) with
      | none => none
      | some (y12, y13, _) => some (.inl (y12, y13, a2, l, a4, a5, ()))
     | false => match partL (y7, a1, a2, p, ()) with
      | none => none
      | some (y14, y15, y16, _) => match quo? .i64 (IntKind.wrap .i64 (a2 - a1)) 8 with
       | none => none
       | some x17 => match (ilt (IntKind.wrap .i64 (y15 - a1)) (IntKind.wrap .i64 (a2 - y15))) with
        | true => match self (y14, a1, y15, l, ()) with
         | none => none
         | some (y18, _) => some (.inl (y18, (IntKind.wrap .i64 (y15 + 1)), a2, l, (ile x17 (IntKind.wrap .i64 (y15 - a1))), y16, ()))
        | false => match self (y14, (IntKind.wrap .i64 (y15 + 1)), a2, l, ()) with
         | none => none
         | some (y19, _) => some (.inl (y19, a1, y15, l, (ile x17 (IntKind.wrap .i64 (a2 - y15))), y16, ()))
 | false => match partL (y7, a1, a2, p, ()) with
  | none => none
  | some (y20, y21, y22, _) => match quo? .i64 (IntKind.wrap .i64 (a2 - a1)) 8 with
   | none => none
   | some x23 => match (ilt (IntKind.wrap .i64 (y21 - a1)) (IntKind.wrap .i64 (a2 - y21))) with
    | true => match self (y20, a1, y21, l, ()) with
     | none => none
     | some (y24, _) => some (.inl (y24, (IntKind.wrap .i64 (y21 + 1)), a2, l, (ile x23 (IntKind.wrap .i64 (y21 - a1))), y22, ()))
    | false => match self (y20, (IntKind.wrap .i64 (y21 + 1)), a2, l, ()) with
     | none => none
     | some (y25, _) => some (.inl (y25, a1, y21, l, (ile x23 (IntKind.wrap .i64 (a2 - y21))), y22, ()))
def pdqL_e [Lk] (self : (List (List Int) × Int × Int × Int × Unit) → Option ((List (List Int) × Unit))) (y6 : List (List Int)) (a1 a2 p h l : Int) (a4 a5 : Bool) : Option ((List (List Int) × Int × Int × Int × Bool × Bool × Unit) ⊕ (List (List Int) × Unit) ⊕ Unit) :=
 match a4 with
 | true => match a5 with
  | true => match (ieq h 1) with
   | true => match partInsL (y6, a1, a2, ()) with
    | none => none
    | some (y7, y8, _) => match y8 with
     | true => some (.inr (.inl (y7, ())))
     | false => pdqL_t self y7 a1 a2 p l a4 a5
   | false => pdqL_t self y6 a1 a2 p l a4 a5
  | false => pdqL_t self y6 a1 a2 p l a4 a5
 | false => pdqL_t self y6 a1 a2 p l a4 a5
def pdqL_m [Lk] (self : (List (List Int) × Int × Int × Int × Unit) → Option ((List (List Int) × Unit))) (y2 : List (List Int)) (a1 a2 l : Int) (a4 a5 : Bool) : Option ((List (List Int) × Int × Int × Int × Bool × Bool × Unit) ⊕ (List (List Int) × Unit) ⊕ Unit) :=
 match pivotL (y2, a1, a2, ()) with
 | none => none
 | some (y3, y4, y5, _) => match (ieq y5 2) with
  | true => match revL (y3, a1, a2, ()) with
   | none => none
   | some (y6, _) => pdqL_e self y6 a1 a2 (IntKind.wrap .i64 ((IntKind.wrap .i64 (a2 - 1)) - (IntKind.wrap .i64 (y4 - a1)))) 1 l a4 a5
  | false => pdqL_e self y3 a1 a2 y4 y5 l a4 a5
def pdqL_s0 [Lk] (self : (List (List Int) × Int × Int × Int × Unit) → Option ((List (List Int) × Unit))) : (List (List Int) × Int × Int × Int × Bool × Bool × Unit) → Option ((List (List Int) × Int × Int × Int × Bool × Bool × Unit) ⊕ (List (List Int) × Unit) ⊕ Unit) := fun (a0, a1, a2, a3, a4, a5, _) =>
 match (ile (IntKind.wrap .i64 (a2 - a1)) 12) with
 | true => match insL (a0, a1, a2, ()) with
  | none => none
  | some (y0, _) => some (.inr (.inl (y0, ())))
 | false => match (ieq a3 0) with
  | true => match heapL (a0, a1, a2, ()) with
   | none => none
   | some (y1, _) => some (.inr (.inl (y1, ())))
  | false => match (!a4) with
   | true => match breakL (a0, a1, a2, ()) with
    | none => none
    | some (y2, _) => pdqL_m self y2 a1 a2 (IntKind.wrap .i64 (a3 - 1)) a4 a5
   | false => pdqL_m self a0 a1 a2 a3 a4 a5
def pdqL_d [Lk] (self : (List (List Int) × Int × Int × Int × Unit) → Option ((List (List Int) × Unit))) : (List (List Int) × Int × Int × Int × Unit) → Option ((List (List Int) × Unit)) := fun (a0, a1, a2, a3, _) =>
 match iterL (pdqL_s0 self) many (a0, a1, a2, a3, true, true, ()) with
 | none => none
 | some r => match r with
  | .inl (o0, _) => some (o0, ())
  | .inr _ => none
def pdqL_f [Lk] : Nat → (List (List Int) × Int × Int × Int × Unit) → Option ((List (List Int) × Unit))
 | 0, _ => none
 | n + 1, v => pdqL_d (pdqL_f n) v
def pdqL [Lk] := fun v => Lk.f (pdqL_f 100 v)
theorem pdqL_eq v : pdqL v = pdqL_f 100 v := lock_eq _
-- slices.SortFunc[[][]int,[]int]
abbrev sortL_i : Items := [(.tmp 0, .own 28 (.slice (.int .i64))), (.tmp 1, .clo 84 [])]
abbrev sortL_o : Items := [(.obj 0, .own 28 (.slice (.int .i64)))]
abbrev sortL_r : List RS := []
def sortL_d [Lk] : (List (List Int) × Unit) → Option ((List (List Int) × Unit)) := fun (a0, _) =>
 match bitsLen ((IntKind.wrap .u64 (dlen a0)), ()) with
 | none => none
 | some (y0, _) => match pdqL (a0, 0, (dlen a0), y0, ()) with
  | none => none
  | some (y1, _) => some (y1, ())
def sortL [Lk] := fun v => Lk.f (sortL_d v)
theorem sortL_eq v : sortL v = sortL_d v := lock_eq _
-- archipelago/tour.with
abbrev twith_i : Items := [(.tmp 0, .dat (.prod (.int .i64) (.prod (.slice (.slice (.int .i64))) .unit))), (.tmp 1, .dat (.slice (.int .i64))), (.tmp 2, .dat (.slice (.slice (.int .i64))))]
abbrev twith_o : Items := [(.tmp 0, .di), (.tmp 1, .own 28 (.slice (.int .i64)))]
abbrev twith_r : List RS := [.agg 2]
abbrev twith_i1 : Items := [(.tmp 3, .box 2), (.cell 0 0, .di), (.cell 0 1, .dat (.slice (.slice (.int .i64)))), (.tmp 6, .box 2), (.cell 1 0, .di), (.cell 1 1, .nil (.slice (.int .i64))), (.tmp 7, .own 28 (.slice (.int .i64))), (.tmp 29, .dat (.slice (.slice (.int .i64)))), (.tmp 30, .di), (.tmp 31, .di)]
abbrev twith_o1 : Outs := [(.exit 2, [(.tmp 3, .box 2), (.cell 0 0, .di), (.cell 0 1, .dat (.slice (.slice (.int .i64)))), (.tmp 6, .box 2), (.cell 1 0, .di), (.cell 1 1, .nil (.slice (.int .i64))), (.tmp 7, .own 28 (.slice (.int .i64)))])]
def twith_s1 [Lk] : (Int × List (List Int) × Int × List (List Int) × List (List Int) × Int × Int × Unit) → Option ((Int × List (List Int) × Int × List (List Int) × List (List Int) × Int × Int × Unit) ⊕ (Int × List (List Int) × Int × List (List Int) × Unit) ⊕ Unit) := fun (a0, a1, a2, a3, a4, a5, a6, _) =>
 match (ilt a6 a5) with
 | true => match idx a4 a6 with
  | none => none
  | some x0 => match rplain (x0, ()) with
   | none => none
   | some (y1, _) => match (fits ((dlen a3) + (dlen ([y1] : List (List Int))))) with
    | true => some (.inl (a0, a1, a2, (dapp a3 ([y1] : List (List Int))), a4, a5, (IntKind.wrap .i64 (a6 + 1)), ()))
    | false => none
 | false => some (.inr (.inl (a0, a1, a2, a3, ())))
abbrev twith_i0 : Items := [(.tmp 1, .dat (.slice (.int .i64))), (.tmp 2, .dat (.slice (.slice (.int .i64)))), (.tmp 3, .box 2), (.cell 0 0, .di), (.cell 0 1, .dat (.slice (.slice (.int .i64)))), (.tmp 6, .box 2), (.cell 1 0, .di), (.cell 1 1, .nil (.slice (.int .i64))), (.tmp 7, .own 28 (.slice (.int .i64))), (.tmp 13, .dat (.slice (.slice (.int .i64)))), (.tmp 14, .di), (.tmp 15, .di)]
abbrev twith_o0 : Outs := [(.exit 0, [(.tmp 2, .dat (.slice (.slice (.int .i64)))), (.tmp 3, .box 2), (.cell 0 0, .di), (.cell 0 1, .dat (.slice (.slice (.int .i64)))), (.tmp 6, .box 2), (.cell 1 0, .di), (.cell 1 1, .nil (.slice (.int .i64))), (.tmp 7, .own 28 (.slice (.int .i64)))])]
def twith_s0 [Lk] : (List Int × List (List Int) × Int × List (List Int) × Int × List (List Int) × List (List Int) × Int × Int × Unit) → Option ((List Int × List (List Int) × Int × List (List Int) × Int × List (List Int) × List (List Int) × Int × Int × Unit) ⊕ (List (List Int) × Int × List (List Int) × Int × List (List Int) × Unit) ⊕ Unit) := fun (a0, a1, a2, a3, a4, a5, a6, a7, a8, _) =>
 match (ilt a8 a7) with
 | true => match idx a6 a8 with
  | none => none
  | some x0 => match containsI (a0, a8, ()) with
   | none => none
   | some (y1, _) => match (!y1) with
    | true => match (fits ((dlen a5) + (dlen ([x0] : List (List Int))))) with
     | true => some (.inl (a0, a1, a2, a3, a4, (dapp a5 ([x0] : List (List Int))), a6, a7, (IntKind.wrap .i64 (a8 + 1)), ()))
     | false => none
    | false => some (.inl (a0, a1, a2, a3, a4, a5, a6, a7, (IntKind.wrap .i64 (a8 + 1)), ()))
 | false => some (.inr (.inl (a1, a2, a3, a4, a5, ())))
def twith_d [Lk] : ((Int × (List (List Int)) × Unit) × List Int × List (List Int) × Unit) → Option ((Int × List (List Int) × Unit)) := fun (a0, a1, a2, _) =>
 match iterL twith_s0 many (a1, a2, a0.1, a0.2.1, 0, ([] : List (List Int)), a0.2.1, (dlen a0.2.1), 0, ()) with
 | none => none
 | some r => match r with
  | .inl (o0, o1, o2, o3, o4, _) => match iterL twith_s1 many (o1, o2, o3, o4, o0, (dlen o0), 0, ()) with
   | none => none
   | some r => match r with
    | .inl (o5, o6, o7, o8, _) => match sortL (o8, ()) with
     | none => none
     | some (y9, _) => some (o5, y9, ())
    | .inr _ => none
  | .inr _ => none
def twith [Lk] := fun v => Lk.f (twith_d v)
theorem twith_eq v : twith v = twith_d v := lock_eq _
-- archipelago/tour.Link
abbrev tlink_i : Items := [(.tmp 0, .dat (.prod (.int .i64) (.prod (.slice (.slice (.int .i64))) .unit))), (.tmp 1, .di), (.tmp 2, .di)]
abbrev tlink_o : Items := [(.tmp 0, .di), (.tmp 1, .dat (.slice (.slice (.int .i64)))), (.tmp 2, .di)]
abbrev tlink_r : List RS := [.agg 2, .one]
def tlink_d [Lk] : ((Int × (List (List Int)) × Unit) × Int × Int × Unit) → Option ((Int × List (List Int) × Int × Unit)) := fun (a0, a1, a2, _) =>
 match asked ((a0.1, (a0.2.1, ())), a1, a2, ()) with
 | none => none
 | some (y0, _) => match (!(ieq y0 0)) with
  | true => some (a0.1, a0.2.1, y0, ())
  | false => match tplace ((a0.1, (a0.2.1, ())), a1, ()) with
   | none => none
   | some (y1, _) => match tplace ((a0.1, (a0.2.1, ())), a2, ()) with
    | none => none
    | some (y2, _) => match (ieq y1 y2) with
     | true => some (a0.1, a0.2.1, 5, ())
     | false => match idx a0.2.1 y1 with
      | none => none
      | some x3 => match rfrom (x3, a1, ()) with
       | none => none
       | some (y4, y5, _) => match idx a0.2.1 y2 with
        | none => none
        | some x6 => match rfrom (x6, a2, ()) with
         | none => none
         | some (y7, y8, _) => match subl y4 0 1 with
          | none => none
          | some x9 => match tarc (a0.1, a1, a2, ()) with
           | none => none
           | some (y10, _) => match tarc (a0.1, a2, a1, ()) with
            | none => none
            | some (y11, _) => match subl y4 1 (dlen y4) with
             | none => none
             | some x12 => match concatI (([(dcut 0 (dnat (dlen x9)) y4), ([y10] : List (Int)), y7, ([y11] : List (Int)), (dcut 1 (dnat (dlen x12)) y4)] : List (List Int)), ()) with
              | none => none
              | some (y13, _) => match twith ((a0.1, (a0.2.1, ())), ([y1, y2] : List (Int)), ([y13] : List (List Int)), ()) with
               | none => none
               | some (y14, y15, _) => some (y14, y15, 0, ())
def tlink [Lk] := fun v => Lk.f (tlink_d v)
theorem tlink_eq v : tlink v = tlink_d v := lock_eq _
end
end Go.Pev
end
section
namespace Go.Pev
set_option maxRecDepth 100000
noncomputable section
attribute [local irreducible] fitsR fitsIR idxR sublR iltR ileR ieqR quoR remR shlR shrR cloneR iterO many IntKind.wrap dlen dset dget dapp dtake dcut drep dnat dclear imin imax lookupM storeM
-- slices.IndexFunc[[]int,int]
abbrev idxFuncI_there_i : Items := [(.tmp 0, .dat (.slice (.int .i64))), (.cap 1 0, .box 2), (.cell 0 0, .di), (.cell 0 1, .dat (.slice (.slice (.int .i64)))), (.tmp 1, .clo 75 [(0, 0)])]
abbrev idxFuncI_there_o : Items := [(.obj 0, .box 2), (.cell 0 0, .di), (.cell 0 1, .dat (.slice (.slice (.int .i64)))), (.tmp 0, .di)]
abbrev idxFuncI_there_r : List RS := [.one]
abbrev idxFuncI_there_i0 : Items := [(.obj 0, .box 2), (.cell 0 0, .di), (.cell 0 1, .dat (.slice (.slice (.int .i64)))), (.tmp 0, .dat (.slice (.int .i64))), (.tmp 1, .clo 75 [(0, 0)]), (.tmp 7, .di), (.tmp 8, .di)]
abbrev idxFuncI_there_o0 : Outs := [(.ret, [(.obj 0, .box 2), (.cell 0 0, .di), (.cell 0 1, .dat (.slice (.slice (.int .i64)))), (.tmp 4, .di)]), (.exit 0, [(.obj 0, .box 2), (.cell 0 0, .di), (.cell 0 1, .dat (.slice (.slice (.int .i64))))])]
def idxFuncI_there_s0 [Lk] : (Int × List (List Int) × List Int × Int × Int × Unit) → Option ((Int × List (List Int) × List Int × Int × Int × Unit) ⊕ (Int × List (List Int) × Int × Unit) ⊕ (Int × List (List Int) × Unit) ⊕ Unit) := fun (a0, a1, a2, a3, a4, _) =>
 match (ilt a4 a3) with
 | true => match idx a2 a4 with
  | none => none
  | some x0 => match (ilt x0 0) with
   | true => some (.inr (.inl (a0, a1, a4, ())))
   | false => match (ile a0 x0) with
    | true => some (.inr (.inl (a0, a1, a4, ())))
    | false => some (.inl (a0, a1, a2, a3, (IntKind.wrap .i64 (a4 + 1)), ()))
 | false => some (.inr (.inr (.inl (a0, a1, ()))))
def idxFuncI_there_d [Lk] : (List Int × Int × List (List Int) × Unit) → Option ((Int × List (List Int) × Int × Unit)) := fun (a0, a1, a2, _) =>
 match iterL idxFuncI_there_s0 many (a1, a2, a0, (dlen a0), 0, ()) with
 | none => none
 | some r => match r with
  | .inl (o0, o1, o2, _) => some (o0, o1, o2, ())
  | .inr r => match r with
   | .inl (o3, o4, _) => some (o3, o4, (-1 : Int), ())
   | .inr _ => none
def idxFuncI_there [Lk] := fun v => Lk.f (idxFuncI_there_d v)
theorem idxFuncI_there_eq v : idxFuncI_there v = idxFuncI_there_d v := lock_eq _
-- slices.ContainsFunc[[]int,int]
abbrev contFuncI_there_i : Items := [(.tmp 0, .dat (.slice (.int .i64))), (.cap 1 0, .box 2), (.cell 0 0, .di), (.cell 0 1, .dat (.slice (.slice (.int .i64)))), (.tmp 1, .clo 75 [(0, 0)])]
abbrev contFuncI_there_o : Items := [(.obj 0, .box 2), (.cell 0 0, .di), (.cell 0 1, .dat (.slice (.slice (.int .i64)))), (.tmp 0, .dat .bool)]
abbrev contFuncI_there_r : List RS := [.one]
def contFuncI_there_d [Lk] : (List Int × Int × List (List Int) × Unit) → Option ((Int × List (List Int) × Bool × Unit)) := fun (a0, a1, a2, _) =>
 match idxFuncI_there (a0, a1, a2, ()) with
 | none => none
 | some (y0, y1, y2, _) => some (y0, y1, (ile 0 y2), ())
def contFuncI_there [Lk] := fun v => Lk.f (contFuncI_there_d v)
theorem contFuncI_there_eq v : contFuncI_there v = contFuncI_there_d v := lock_eq _
-- archipelago/forest.there
abbrev fthere_i : Items := [(.tmp 0, .dat (.prod (.int .i64) (.prod (.slice (.slice (.int .i64))) .unit))), (.tmp 1, .dat (.slice (.int .i64)))]
abbrev fthere_o : Items := [(.tmp 0, .di)]
abbrev fthere_r : List RS := [.one]
def fthere_d [Lk] : ((Int × (List (List Int)) × Unit) × List Int × Unit) → Option ((Int × Unit)) := fun (a0, a1, _) =>
 match tright ((a0.1, (a0.2.1, ())), ()) with
 | none => none
 | some (y0, _) => match (!y0) with
  | true => some (1, ())
  | false => match contFuncI_there (a1, a0.1, a0.2.1, ()) with
   | none => none
   | some (y1, y2, y3, _) => match y3 with
    | true => some (10, ())
    | false => some (0, ())
def fthere [Lk] := fun v => Lk.f (fthere_d v)
theorem fthere_eq v : fthere v = fthere_d v := lock_eq _
-- archipelago/forest.ends
abbrev ends_i : Items := [(.tmp 0, .dat (.slice (.prod (.int .i64) (.prod (.int .i64) .unit))))]
abbrev ends_o : Items := [(.tmp 0, .own 3 (.int .i64))]
abbrev ends_r : List RS := [.one]
abbrev ends_i0 : Items := [(.tmp 3, .own 3 (.int .i64)), (.tmp 6, .dat (.slice (.prod (.int .i64) (.prod (.int .i64) .unit)))), (.tmp 7, .di), (.tmp 8, .di)]
abbrev ends_o0 : Outs := [(.exit 0, [(.tmp 3, .own 3 (.int .i64))])]
def ends_s0 [Lk] : (List Int × List (Int × Int × Unit) × Int × Int × Unit) → Option ((List Int × List (Int × Int × Unit) × Int × Int × Unit) ⊕ (List Int × Unit) ⊕ Unit) := fun (a0, a1, a2, a3, _) =>
 match (ilt a3 a2) with
 | true => match idx a1 a3 with
  | none => none
  | some x0 => match (fits ((dlen a0) + (dlen ([x0.1, x0.2.1] : List (Int))))) with
   | true => some (.inl ((dapp a0 ([x0.1, x0.2.1] : List (Int))), a1, a2, (IntKind.wrap .i64 (a3 + 1)), ()))
   | false => none
 | false => some (.inr (.inl (a0, ())))
def ends_d [Lk] : (List (Int × Int × Unit) × Unit) → Option ((List Int × Unit)) := fun (a0, _) =>
 match iterL ends_s0 many (([] : List (Int)), a0, (dlen a0), 0, ()) with
 | none => none
 | some r => match r with
  | .inl (o0, _) => some (o0, ())
  | .inr _ => none
def ends [Lk] := fun v => Lk.f (ends_d v)
theorem ends_eq v : ends v = ends_d v := lock_eq _
-- archipelago/forest.each
abbrev eachLink_i : Items := [(.tmp 0, .dat (.prod (.int .i64) (.prod (.slice (.slice (.int .i64))) .unit))), (.tmp 1, .dat (.slice (.prod (.int .i64) (.prod (.int .i64) .unit)))), (.tmp 2, .clo 66 [])]
abbrev eachLink_o : Items := [(.tmp 0, .dat (.prod (.int .i64) (.prod (.slice (.slice (.int .i64))) .unit))), (.tmp 1, .own 4 .bool), (.tmp 2, .di)]
abbrev eachLink_r : List RS := [.one, .one, .one]
abbrev eachLink_i0 : Items := [(.tmp 2, .clo 66 []), (.tmp 3, .box 2), (.cell 0 0, .di), (.cell 0 1, .dat (.slice (.slice (.int .i64)))), (.tmp 6, .box 2), (.cell 1 0, .di), (.cell 1 1, .nil (.slice (.int .i64))), (.tmp 10, .own 4 .bool), (.tmp 23, .dat (.slice (.prod (.int .i64) (.prod (.int .i64) .unit)))), (.tmp 24, .di), (.tmp 25, .di)]
abbrev eachLink_o0 : Outs := [(.exit 0, [(.tmp 3, .box 2), (.cell 0 0, .di), (.cell 0 1, .dat (.slice (.slice (.int .i64)))), (.tmp 6, .box 2), (.cell 1 0, .di), (.cell 1 1, .nil (.slice (.int .i64))), (.tmp 10, .own 4 .bool)])]
def eachLink_s0 [Lk] : (Int × List (List Int) × Int × List Bool × List (Int × Int × Unit) × Int × Int × Unit) → Option ((Int × List (List Int) × Int × List Bool × List (Int × Int × Unit) × Int × Int × Unit) ⊕ (Int × List (List Int) × Int × List Bool × Unit) ⊕ Unit) := fun (a0, a1, a2, a3, a4, a5, a6, _) =>
 match (ilt a6 a5) with
 | true => match idx a4 a6 with
  | none => none
  | some x0 => match tlink ((a0, (a1, ())), x0.1, x0.2.1, ()) with
   | none => none
   | some (y1, y2, y3, _) => match (fits ((dlen a3) + (dlen ([(ieq y3 0)] : List (Bool))))) with
    | true => some (.inl (y1, y2, a2, (dapp a3 ([(ieq y3 0)] : List (Bool))), a4, a5, (IntKind.wrap .i64 (a6 + 1)), ()))
    | false => none
 | false => some (.inr (.inl (a0, a1, a2, a3, ())))
def eachLink_d [Lk] : ((Int × (List (List Int)) × Unit) × List (Int × Int × Unit) × Unit) → Option (((Int × (List (List Int)) × Unit) × List Bool × Int × Unit)) := fun (a0, a1, _) =>
 match ends (a1, ()) with
 | none => none
 | some (y0, _) => match fthere ((a0.1, (a0.2.1, ())), y0, ()) with
  | none => none
  | some (y1, _) => match (!(ieq y1 0)) with
   | true => some ((a0.1, (a0.2.1, ())), ([] : List (Bool)), y1, ())
   | false => match iterL eachLink_s0 many (a0.1, a0.2.1, 0, ([] : List (Bool)), a1, (dlen a1), 0, ()) with
    | none => none
    | some r => match r with
     | .inl (o2, o3, o4, o5, _) => some ((o2, (o3, ())), o5, 0, ())
     | .inr _ => none
def eachLink [Lk] := fun v => Lk.f (eachLink_d v)
theorem eachLink_eq v : eachLink v = eachLink_d v := lock_eq _
-- archipelago/forest.Links
abbrev flinks_i : Items := [(.tmp 0, .dat (.prod (.int .i64) (.prod (.slice (.slice (.int .i64))) .unit))), (.tmp 1, .dat (.slice (.prod (.int .i64) (.prod (.int .i64) .unit))))]
abbrev flinks_o : Items := [(.tmp 0, .dat (.prod (.int .i64) (.prod (.slice (.slice (.int .i64))) .unit))), (.tmp 1, .own 4 .bool), (.tmp 2, .di)]
abbrev flinks_r : List RS := [.one, .one, .one]
def flinks_d [Lk] : ((Int × (List (List Int)) × Unit) × List (Int × Int × Unit) × Unit) → Option (((Int × (List (List Int)) × Unit) × List Bool × Int × Unit)) := fun (a0, a1, _) =>
 match eachLink ((a0.1, (a0.2.1, ())), a1, ()) with
 | none => none
 | some (y0, y1, y2, _) => some ((y0.1, (y0.2.1, ())), y1, y2, ())
def flinks [Lk] := fun v => Lk.f (flinks_d v)
theorem flinks_eq v : flinks v = flinks_d v := lock_eq _
-- archipelago/forest.Of
abbrev fof_i : Items := [(.tmp 0, .di), (.tmp 1, .dat (.slice (.prod (.int .i64) (.prod (.int .i64) .unit))))]
abbrev fof_o : Items := [(.tmp 0, .dat (.prod (.int .i64) (.prod (.slice (.slice (.int .i64))) .unit))), (.tmp 1, .di)]
abbrev fof_r : List RS := [.one, .one]
def fof_d [Lk] : (Int × List (Int × Int × Unit) × Unit) → Option (((Int × (List (List Int)) × Unit) × Int × Unit)) := fun (a0, a1, _) =>
 match tmake (a0, ()) with
 | none => none
 | some (y0, y1, y2, _) => match (!(ieq y2 0)) with
  | true => some ((0, (([] : List (List Int)), ())), y2, ())
  | false => match flinks ((y0, (y1, ())), a1, ()) with
   | none => none
   | some (y3, y4, y5, _) => match (!(ieq y5 0)) with
    | true => some ((0, (([] : List (List Int)), ())), y5, ())
    | false => some ((y3.1, (y3.2.1, ())), 0, ())
def fof [Lk] := fun v => Lk.f (fof_d v)
theorem fof_eq v : fof v = fof_d v := lock_eq _
-- cmp.Or[int]
abbrev orI_i : Items := [(.tmp 0, .dat (.slice (.int .i64)))]
abbrev orI_o : Items := [(.tmp 0, .di)]
abbrev orI_r : List RS := [.one]
abbrev orI_i0 : Items := [(.tmp 3, .di), (.tmp 6, .dat (.slice (.int .i64))), (.tmp 7, .di), (.tmp 8, .di)]
abbrev orI_o0 : Outs := [(.ret, [(.tmp 2, .di)]), (.exit 0, [(.tmp 3, .di)])]
def orI_s0 [Lk] : (Int × List Int × Int × Int × Unit) → Option ((Int × List Int × Int × Int × Unit) ⊕ (Int × Unit) ⊕ (Int × Unit) ⊕ Unit) := fun (a0, a1, a2, a3, _) =>
 match (ilt a3 a2) with
 | true => match idx a1 a3 with
  | none => none
  | some x0 => match (!(ieq x0 a0)) with
   | true => some (.inr (.inl (x0, ())))
   | false => some (.inl (a0, a1, a2, (IntKind.wrap .i64 (a3 + 1)), ()))
 | false => some (.inr (.inr (.inl (a0, ()))))
def orI_d [Lk] : (List Int × Unit) → Option ((Int × Unit)) := fun (a0, _) =>
 match iterL orI_s0 many (0, a0, (dlen a0), 0, ()) with
 | none => none
 | some r => match r with
  | .inl (o0, _) => some (o0, ())
  | .inr r => match r with
   | .inl (o1, _) => some (o1, ())
   | .inr _ => none
def orI [Lk] := fun v => Lk.f (orI_d v)
theorem orI_eq v : orI v = orI_d v := lock_eq _
-- archipelago/level.sized
abbrev lsized_i : Items := [(.tmp 0, .di)]
abbrev lsized_o : Items := [(.tmp 0, .dat .bool)]
abbrev lsized_r : List RS := [.one]
def lsized_d [Lk] : (Int × Unit) → Option ((Bool × Unit)) := fun (a0, _) =>
 match (ile 1 a0) with
 | true => some ((ile a0 64), ())
 | false => some (false, ())
def lsized [Lk] := fun v => Lk.f (lsized_d v)
theorem lsized_eq v : lsized v = lsized_d v := lock_eq _
-- archipelago/level.Top
abbrev ltop_i : Items := [(.tmp 0, .di)]
abbrev ltop_o : Items := [(.tmp 0, .di)]
abbrev ltop_r : List RS := [.one]
def ltop_d [Lk] : (Int × Unit) → Option ((Int × Unit)) := fun (a0, _) =>
 match lsized (a0, ()) with
 | none => none
 | some (y0, _) => match (!y0) with
  | true => some (0, ())
  | false => match bitsLen ((IntKind.wrap .u64 (IntKind.wrap .i64 (a0 - 1))), ()) with
   | none => none
   | some (y1, _) => some (y1, ())
def ltop [Lk] := fun v => Lk.f (ltop_d v)
theorem ltop_eq v : ltop v = ltop_d v := lock_eq _
-- archipelago/level.compare
abbrev lcompare_i : Items := [(.tmp 0, .dat (.prod (.int .i64) (.prod (.int .i64) (.prod (.int .i64) (.prod .bool .unit))))), (.tmp 1, .dat (.prod (.int .i64) (.prod (.int .i64) (.prod (.int .i64) (.prod .bool .unit)))))]
abbrev lcompare_o : Items := [(.tmp 0, .di)]
abbrev lcompare_r : List RS := [.one]
def lcompare_d [Lk] : ((Int × Int × Int × Bool × Unit) × (Int × Int × Int × Bool × Unit) × Unit) → Option ((Int × Unit)) := fun (a0, a1, _) =>
 match compareI (a0.1, a1.1, ()) with
 | none => none
 | some (y0, _) => match compareI (a0.2.1, a1.2.1, ()) with
  | none => none
  | some (y1, _) => match orI (([y0, y1] : List (Int)), ()) with
   | none => none
   | some (y2, _) => some (y2, ())
def lcompare [Lk] := fun v => Lk.f (lcompare_d v)
theorem lcompare_eq v : lcompare v = lcompare_d v := lock_eq _
-- archipelago/level.trees
abbrev ltrees_i : Items := [(.tmp 0, .dat (.prod (.int .i64) (.prod (.slice (.prod (.int .i64) (.prod (.int .i64) (.prod (.int .i64) (.prod .bool .unit))))) .unit))), (.tmp 1, .di)]
abbrev ltrees_o : Items := [(.tmp 0, .own 70 (.prod (.int .i64) (.prod (.int .i64) .unit)))]
abbrev ltrees_r : List RS := [.one]
abbrev ltrees_i0 : Items := [(.tmp 1, .di), (.tmp 5, .own 70 (.prod (.int .i64) (.prod (.int .i64) .unit))), (.tmp 9, .dat (.slice (.prod (.int .i64) (.prod (.int .i64) (.prod (.int .i64) (.prod .bool .unit)))))), (.tmp 10, .di), (.tmp 11, .di)]
abbrev ltrees_o0 : Outs := [(.exit 0, [(.tmp 5, .own 70 (.prod (.int .i64) (.prod (.int .i64) .unit)))])]
def ltrees_s0 [Lk] : (Int × List (Int × Int × Unit) × List (Int × Int × Int × Bool × Unit) × Int × Int × Unit) → Option ((Int × List (Int × Int × Unit) × List (Int × Int × Int × Bool × Unit) × Int × Int × Unit) ⊕ (List (Int × Int × Unit) × Unit) ⊕ Unit) := fun (a0, a1, a2, a3, a4, _) =>
 match (ilt a4 a3) with
 | true => match idx a2 a4 with
  | none => none
  | some x0 => match x0.2.2.2.1 with
   | true => match (ile a0 x0.2.2.1) with
    | true => match (fits ((dlen a1) + (dlen ([(x0.1, (x0.2.1, ()))] : List (Int × Int × Unit))))) with
     | true => some (.inl (a0, (dapp a1 ([(x0.1, (x0.2.1, ()))] : List (Int × Int × Unit))), a2, a3, (IntKind.wrap .i64 (a4 + 1)), ()))
     | false => none
    | false => some (.inl (a0, a1, a2, a3, (IntKind.wrap .i64 (a4 + 1)), ()))
   | false => some (.inl (a0, a1, a2, a3, (IntKind.wrap .i64 (a4 + 1)), ()))
 | false => some (.inr (.inl (a1, ())))
def ltrees_d [Lk] : ((Int × (List (Int × Int × Int × Bool × Unit)) × Unit) × Int × Unit) → Option ((List (Int × Int × Unit) × Unit)) := fun (a0, a1, _) =>
 match iterL ltrees_s0 many (a1, ([] : List (Int × Int × Unit)), a0.2.1, (dlen a0.2.1), 0, ()) with
 | none => none
 | some r => match r with
  | .inl (o0, _) => some (o0, ())
  | .inr _ => none
def ltrees [Lk] := fun v => Lk.f (ltrees_d v)
theorem ltrees_eq v : ltrees v = ltrees_d v := lock_eq _
-- archipelago/level.Right
abbrev lright_i : Items := [(.tmp 0, .dat (.prod (.int .i64) (.prod (.slice (.prod (.int .i64) (.prod (.int .i64) (.prod (.int .i64) (.prod .bool .unit))))) .unit)))]
abbrev lright_o : Items := [(.tmp 0, .dat .bool)]
abbrev lright_r : List RS := [.one]
abbrev lright_i0 : Items := [(.tmp 1, .box 2), (.cell 0 0, .di), (.cell 0 1, .dat (.slice (.prod (.int .i64) (.prod (.int .i64) (.prod (.int .i64) (.prod .bool .unit)))))), (.tmp 3, .di), (.tmp 23, .dat (.slice (.prod (.int .i64) (.prod (.int .i64) (.prod (.int .i64) (.prod .bool .unit)))))), (.tmp 24, .di), (.tmp 25, .di)]
abbrev lright_o0 : Outs := [(.ret, [(.tmp 2, .dat .bool)]), (.exit 0, [(.tmp 1, .box 2), (.cell 0 0, .di), (.cell 0 1, .dat (.slice (.prod (.int .i64) (.prod (.int .i64) (.prod (.int .i64) (.prod .bool .unit))))))])]
def lright_s0 [Lk] : (Int × List (Int × Int × Int × Bool × Unit) × Int × List (Int × Int × Int × Bool × Unit) × Int × Int × Unit) → Option ((Int × List (Int × Int × Int × Bool × Unit) × Int × List (Int × Int × Int × Bool × Unit) × Int × Int × Unit) ⊕ (Bool × Unit) ⊕ (Int × List (Int × Int × Int × Bool × Unit) × Unit) ⊕ Unit) := fun (a0, a1, a2, a3, a4, a5, _) =>
 match (ilt a5 a4) with
 | true => match idx a3 a5 with
  | none => none
  | some x0 => match (ilt x0.1 0) with
   | true => some (.inr (.inl (false, ())))
   | false => match (ile x0.2.1 x0.1) with
    | true => some (.inr (.inl (false, ())))
    | false => match (ile a0 x0.2.1) with
     | true => some (.inr (.inl (false, ())))
     | false => match (ilt x0.2.2.1 0) with
      | true => some (.inr (.inl (false, ())))
      | false => match (ilt a2 x0.2.2.1) with
       | true => some (.inr (.inl (false, ())))
       | false => match (ilt 0 a5) with
        | true => match idx a1 (IntKind.wrap .i64 (a5 - 1)) with
         | none => none
         | some x1 => match lcompare ((x1.1, (x1.2.1, (x1.2.2.1, (x1.2.2.2.1, ())))), (x0.1, (x0.2.1, (x0.2.2.1, (x0.2.2.2.1, ())))), ()) with
          | none => none
          | some (y2, _) => match (ile 0 y2) with
           | true => some (.inr (.inl (false, ())))
           | false => some (.inl (a0, a1, a2, a3, a4, (IntKind.wrap .i64 (a5 + 1)), ()))
        | false => some (.inl (a0, a1, a2, a3, a4, (IntKind.wrap .i64 (a5 + 1)), ()))
 | false => some (.inr (.inr (.inl (a0, a1, ()))))
def lright_d [Lk] : ((Int × (List (Int × Int × Int × Bool × Unit)) × Unit) × Unit) → Option ((Bool × Unit)) := fun (a0, _) =>
 match lsized (a0.1, ()) with
 | none => none
 | some (y0, _) => match (!y0) with
  | true => some (false, ())
  | false => match (ilt 400 (dlen a0.2.1)) with
   | true => some (false, ())
   | false => match ltop (a0.1, ()) with
    | none => none
    | some (y1, _) => match iterL lright_s0 many (a0.1, a0.2.1, y1, a0.2.1, (dlen a0.2.1), 0, ()) with
     | none => none
     | some r => match r with
      | .inl (o2, _) => some (o2, ())
      | .inr r => match r with
       | .inl (o3, o4, _) => match ltrees ((o3, (o4, ())), 0, ()) with
        | none => none
        | some (y5, _) => match fof (o3, y5, ()) with
         | none => none
         | some (y6, y7, _) => match (ieq y7 0) with
          | true => some ((ieq (dlen y6.2.1) (IntKind.wrap .i64 (o3 - (dlen y5)))), ())
          | false => some (false, ())
       | .inr _ => none
def lright [Lk] := fun v => Lk.f (lright_d v)
theorem lright_eq v : lright v = lright_d v := lock_eq _
-- archipelago/level.Edges
abbrev ledges_i : Items := [(.tmp 0, .dat (.prod (.int .i64) (.prod (.slice (.prod (.int .i64) (.prod (.int .i64) (.prod (.int .i64) (.prod .bool .unit))))) .unit)))]
abbrev ledges_o : Items := [(.tmp 0, .own 70 (.prod (.int .i64) (.prod (.int .i64) .unit)))]
abbrev ledges_r : List RS := [.one]
abbrev ledges_i0 : Items := [(.tmp 3, .own 70 (.prod (.int .i64) (.prod (.int .i64) .unit))), (.tmp 10, .dat (.slice (.prod (.int .i64) (.prod (.int .i64) (.prod (.int .i64) (.prod .bool .unit)))))), (.tmp 11, .di), (.tmp 12, .di)]
abbrev ledges_o0 : Outs := [(.exit 0, [(.tmp 3, .own 70 (.prod (.int .i64) (.prod (.int .i64) .unit)))])]
def ledges_s0 [Lk] : (List (Int × Int × Unit) × List (Int × Int × Int × Bool × Unit) × Int × Int × Unit) → Option ((List (Int × Int × Unit) × List (Int × Int × Int × Bool × Unit) × Int × Int × Unit) ⊕ (List (Int × Int × Unit) × Unit) ⊕ Unit) := fun (a0, a1, a2, a3, _) =>
 match (ilt a3 a2) with
 | true => match idx a1 a3 with
  | none => none
  | some x0 => match (fits ((dlen a0) + (dlen ([(x0.1, (x0.2.1, ()))] : List (Int × Int × Unit))))) with
   | true => some (.inl ((dapp a0 ([(x0.1, (x0.2.1, ()))] : List (Int × Int × Unit))), a1, a2, (IntKind.wrap .i64 (a3 + 1)), ()))
   | false => none
 | false => some (.inr (.inl (a0, ())))
def ledges_d [Lk] : ((Int × (List (Int × Int × Int × Bool × Unit)) × Unit) × Unit) → Option ((List (Int × Int × Unit) × Unit)) := fun (a0, _) =>
 match lright ((a0.1, (a0.2.1, ())), ()) with
 | none => none
 | some (y0, _) => match (!y0) with
  | true => some (([] : List (Int × Int × Unit)), ())
  | false => match iterL ledges_s0 many (([] : List (Int × Int × Unit)), a0.2.1, (dlen a0.2.1), 0, ()) with
   | none => none
   | some r => match r with
    | .inl (o1, _) => some (o1, ())
    | .inr _ => none
def ledges [Lk] := fun v => Lk.f (ledges_d v)
theorem ledges_eq v : ledges v = ledges_d v := lock_eq _
-- archipelago/span.asked
abbrev sasked_i : Items := [(.tmp 0, .di), (.tmp 1, .dat (.slice (.prod (.int .i64) (.prod (.int .i64) .unit))))]
abbrev sasked_o : Items := [(.tmp 0, .di)]
abbrev sasked_r : List RS := [.one]
abbrev sasked_i0 : Items := [(.tmp 0, .di), (.tmp 13, .dat (.slice (.prod (.int .i64) (.prod (.int .i64) .unit)))), (.tmp 14, .di), (.tmp 15, .di)]
abbrev sasked_o0 : Outs := [(.ret, [(.tmp 4, .di)]), (.exit 0, [])]
def sasked_s0 [Lk] : (Int × List (Int × Int × Unit) × Int × Int × Unit) → Option ((Int × List (Int × Int × Unit) × Int × Int × Unit) ⊕ (Int × Unit) ⊕ (Unit) ⊕ Unit) := fun (a0, a1, a2, a3, _) =>
 match (ilt a3 a2) with
 | true => match idx a1 a3 with
  | none => none
  | some x0 => match (ilt (imin x0.1 x0.2.1) 0) with
   | true => some (.inr (.inl (10, ())))
   | false => match (ile a0 (imax x0.1 x0.2.1)) with
    | true => some (.inr (.inl (10, ())))
    | false => some (.inl (a0, a1, a2, (IntKind.wrap .i64 (a3 + 1)), ()))
 | false => some (.inr (.inr (.inl ())))
def sasked_d [Lk] : (Int × List (Int × Int × Unit) × Unit) → Option ((Int × Unit)) := fun (a0, a1, _) =>
 match (ilt a0 1) with
 | true => some (1, ())
 | false => match (ilt 64 a0) with
  | true => some (1, ())
  | false => match iterL sasked_s0 many (a0, a1, (dlen a1), 0, ()) with
   | none => none
   | some r => match r with
    | .inl (o0, _) => some (o0, ())
    | .inr r => match r with
     | .inl _ => some (0, ())
     | .inr _ => none
def sasked [Lk] := fun v => Lk.f (sasked_d v)
theorem sasked_eq v : sasked v = sasked_d v := lock_eq _
-- archipelago/span.alone
abbrev salone_i : Items := [(.tmp 0, .di)]
abbrev salone_o : Items := [(.tmp 0, .own 3 (.int .i64))]
abbrev salone_r : List RS := [.one]
abbrev salone_i0 : Items := [(.tmp 3, .own 3 (.int .i64)), (.tmp 8, .di), (.tmp 9, .di)]
abbrev salone_o0 : Outs := [(.exit 0, [(.tmp 3, .own 3 (.int .i64))])]
def salone_s0 [Lk] : (List Int × Int × Int × Unit) → Option ((List Int × Int × Int × Unit) ⊕ (List Int × Unit) ⊕ Unit) := fun (a0, a1, a2, _) =>
 match (ilt a2 a1) with
 | true => match idx a0 a2 with
  | none => none
  | some x0 => some (.inl ((dset a0 (dnat a2) a2), a1, (IntKind.wrap .i64 (a2 + 1)), ()))
 | false => some (.inr (.inl (a0, ())))
def salone_d [Lk] : (Int × Unit) → Option ((List Int × Unit)) := fun (a0, _) =>
 match (fitsI a0 && fitsI a0 && ile a0 a0 && true) with
 | true => match iterL salone_s0 many ((drep (dnat a0) (0 : Int)), (dlen (drep (dnat a0) (0 : Int))), (0 : Int), ()) with
  | none => none
  | some r => match r with
   | .inl (o0, _) => some (o0, ())
   | .inr _ => none
 | false => none
def salone [Lk] := fun v => Lk.f (salone_d v)
theorem salone_eq v : salone v = salone_d v := lock_eq _
-- (archipelago/span.sets).least
abbrev sleast_i : Items := [(.tmp 0, .own 3 (.int .i64)), (.tmp 1, .di)]
abbrev sleast_o : Items := [(.obj 0, .own 3 (.int .i64)), (.tmp 0, .di)]
abbrev sleast_r : List RS := [.one]
abbrev sleast_i0 : Items := [(.obj 0, .own 3 (.int .i64)), (.tmp 0, .own' 0), (.tmp 1, .di)]
abbrev sleast_o0 : Outs := [(.exit 0, [(.obj 0, .own 3 (.int .i64)), (.tmp 1, .di)])]
def sleast_s0 [Lk] : (List Int × Int × Unit) → Option ((List Int × Int × Unit) ⊕ (List Int × Int × Unit) ⊕ Unit) := fun (a0, a1, _) =>
 match idx a0 a1 with
 | none => none
 | some x0 => match (!(ieq (dget a0 (dnat a1) 0) a1)) with
  | true => match idx a0 a1 with
   | none => none
   | some x1 => match idx a0 (dget a0 (dnat a1) 0) with
    | none => none
    | some x2 => match idx a0 a1 with
     | none => none
     | some x3 => match idx (dset a0 (dnat a1) (dget a0 (dnat (dget a0 (dnat a1) 0)) 0)) a1 with
      | none => none
      | some x4 => some (.inl ((dset a0 (dnat a1) (dget a0 (dnat (dget a0 (dnat a1) 0)) 0)), (dget (dset a0 (dnat a1) (dget a0 (dnat (dget a0 (dnat a1) 0)) 0)) (dnat a1) 0), ()))
  | false => some (.inr (.inl (a0, a1, ())))
def sleast_d [Lk] : (List Int × Int × Unit) → Option ((List Int × Int × Unit)) := fun (a0, a1, _) =>
 match iterL sleast_s0 many (a0, a1, ()) with
 | none => none
 | some r => match r with
  | .inl (o0, o1, _) => some (o0, o1, ())
  | .inr _ => none
def sleast [Lk] := fun v => Lk.f (sleast_d v)
theorem sleast_eq v : sleast v = sleast_d v := lock_eq _
-- (archipelago/span.sets).join
abbrev sjoin_i : Items := [(.tmp 0, .own 3 (.int .i64)), (.tmp 1, .di), (.tmp 2, .di)]
abbrev sjoin_o : Items := [(.obj 0, .own 3 (.int .i64)), (.tmp 0, .dat .bool)]
abbrev sjoin_r : List RS := [.one]
def sjoin_d [Lk] : (List Int × Int × Int × Unit) → Option ((List Int × Bool × Unit)) := fun (a0, a1, a2, _) =>
 match sleast (a0, a1, ()) with
 | none => none
 | some (y0, y1, _) => match sleast (y0, a2, ()) with
  | none => none
  | some (y2, y3, _) => match idx y2 (imax y1 y3) with
   | none => none
   | some x4 => some ((dset y2 (dnat (imax y1 y3)) (imin y1 y3)), (!(ieq y1 y3)), ())
def sjoin [Lk] := fun v => Lk.f (sjoin_d v)
theorem sjoin_eq v : sjoin v = sjoin_d v := lock_eq _
-- archipelago/span.each
abbrev eachJoin_i : Items := [(.tmp 0, .dat (.slice (.prod (.int .i64) (.prod (.int .i64) .unit)))), (.cap 1 0, .own 3 (.int .i64)), (.tmp 1, .bnd 60 0)]
abbrev eachJoin_o : Items := [(.obj 0, .own 3 (.int .i64)), (.tmp 0, .own 4 .bool)]
abbrev eachJoin_r : List RS := [.one]
abbrev eachJoin_i0 : Items := [(.obj 0, .own 3 (.int .i64)), (.tmp 1, .bnd 60 0), (.tmp 5, .own 4 .bool), (.tmp 8, .dat (.slice (.prod (.int .i64) (.prod (.int .i64) .unit)))), (.tmp 9, .di), (.tmp 10, .di)]
abbrev eachJoin_o0 : Outs := [(.exit 0, [(.obj 0, .own 3 (.int .i64)), (.tmp 5, .own 4 .bool)])]
def eachJoin_s0 [Lk] : (List Int × List Bool × List (Int × Int × Unit) × Int × Int × Unit) → Option ((List Int × List Bool × List (Int × Int × Unit) × Int × Int × Unit) ⊕ (List Int × List Bool × Unit) ⊕ Unit) := fun (a0, a1, a2, a3, a4, _) =>
 match (ilt a4 a3) with
 | true => match idx a2 a4 with
  | none => none
  | some x0 => match sjoin (a0, x0.1, x0.2.1, ()) with
   | none => none
   | some (y1, y2, _) => match (fits ((dlen a1) + (dlen ([y2] : List (Bool))))) with
    | true => some (.inl (y1, (dapp a1 ([y2] : List (Bool))), a2, a3, (IntKind.wrap .i64 (a4 + 1)), ()))
    | false => none
 | false => some (.inr (.inl (a0, a1, ())))
def eachJoin_d [Lk] : (List (Int × Int × Unit) × List Int × Unit) → Option ((List Int × List Bool × Unit)) := fun (a0, a1, _) =>
 match iterL eachJoin_s0 many (a1, ([] : List (Bool)), a0, (dlen a0), 0, ()) with
 | none => none
 | some r => match r with
  | .inl (o0, o1, _) => some (o0, o1, ())
  | .inr _ => none
def eachJoin [Lk] := fun v => Lk.f (eachJoin_d v)
theorem eachJoin_eq v : eachJoin v = eachJoin_d v := lock_eq _
-- (archipelago/span.sets).joins
abbrev sjoins_i : Items := [(.tmp 0, .own 3 (.int .i64)), (.tmp 1, .dat (.slice (.prod (.int .i64) (.prod (.int .i64) .unit))))]
abbrev sjoins_o : Items := [(.obj 0, .own 3 (.int .i64)), (.tmp 0, .own 4 .bool)]
abbrev sjoins_r : List RS := [.one]
def sjoins_d [Lk] : (List Int × List (Int × Int × Unit) × Unit) → Option ((List Int × List Bool × Unit)) := fun (a0, a1, _) =>
 match eachJoin (a1, a0, ()) with
 | none => none
 | some (y0, y1, _) => some (y0, y1, ())
def sjoins [Lk] := fun v => Lk.f (sjoins_d v)
theorem sjoins_eq v : sjoins v = sjoins_d v := lock_eq _
-- archipelago/span.Classes
abbrev sclasses_i : Items := [(.tmp 0, .di), (.tmp 1, .dat (.slice (.prod (.int .i64) (.prod (.int .i64) .unit))))]
abbrev sclasses_o : Items := [(.tmp 0, .own 3 (.int .i64)), (.tmp 1, .di)]
abbrev sclasses_r : List RS := [.one, .one]
abbrev sclasses_i0 : Items := [(.tmp 7, .own 3 (.int .i64)), (.tmp 21, .di), (.tmp 22, .di)]
abbrev sclasses_o0 : Outs := [(.exit 0, [(.tmp 7, .own 3 (.int .i64))])]
def sclasses_s0 [Lk] : (List Int × Int × Int × Unit) → Option ((List Int × Int × Int × Unit) ⊕ (List Int × Unit) ⊕ Unit) := fun (a0, a1, a2, _) =>
 match (ilt a2 a1) with
 | true => match sleast (a0, a2, ()) with
  | none => none
  | some (y0, y1, _) => match idx y0 a2 with
   | none => none
   | some x2 => some (.inl ((dset y0 (dnat a2) y1), a1, (IntKind.wrap .i64 (a2 + 1)), ()))
 | false => some (.inr (.inl (a0, ())))
def sclasses_d [Lk] : (Int × List (Int × Int × Unit) × Unit) → Option ((List Int × Int × Unit)) := fun (a0, a1, _) =>
 match sasked (a0, a1, ()) with
 | none => none
 | some (y0, _) => match (!(ieq y0 0)) with
  | true => some (([] : List (Int)), y0, ())
  | false => match salone (a0, ()) with
   | none => none
   | some (y1, _) => match sjoins (y1, a1, ()) with
    | none => none
    | some (y2, y3, _) => match iterL sclasses_s0 many (y2, (dlen y2), 0, ()) with
     | none => none
     | some r => match r with
      | .inl (o4, _) => some (o4, 0, ())
      | .inr _ => none
def sclasses [Lk] := fun v => Lk.f (sclasses_d v)
theorem sclasses_eq v : sclasses v = sclasses_d v := lock_eq _
-- archipelago/say.of
abbrev sayof_i : Items := [(.tmp 0, .dat (.prod (.int .i64) (.prod (.slice (.prod (.int .i64) (.prod (.int .i64) (.prod (.int .i64) (.prod .bool .unit))))) .unit)))]
abbrev sayof_o : Items := [(.tmp 0, .own 3 (.int .i64)), (.tmp 1, .dat .bool)]
abbrev sayof_r : List RS := [.one, .one]
def sayof_d [Lk] : ((Int × (List (Int × Int × Int × Bool × Unit)) × Unit) × Unit) → Option ((List Int × Bool × Unit)) := fun (a0, _) =>
 match lright ((a0.1, (a0.2.1, ())), ()) with
 | none => none
 | some (y0, _) => match (!y0) with
  | true => some (([] : List (Int)), false, ())
  | false => match ledges ((a0.1, (a0.2.1, ())), ()) with
   | none => none
   | some (y1, _) => match sclasses (a0.1, y1, ()) with
    | none => none
    | some (y2, y3, _) => some (y2, true, ())
def sayof [Lk] := fun v => Lk.f (sayof_d v)
theorem sayof_eq v : sayof v = sayof_d v := lock_eq _
-- archipelago/say.fits
abbrev sfits_i : Items := [(.tmp 0, .di)]
abbrev sfits_o : Items := [(.tmp 0, .dat .bool)]
abbrev sfits_r : List RS := [.one]
def sfits_d [Lk] : (Int × Unit) → Option ((Bool × Unit)) := fun (a0, _) =>
 some ((ieq a0 (IntKind.wrap .i64 (IntKind.wrap .u16 a0))), ())
def sfits [Lk] := fun v => Lk.f (sfits_d v)
theorem sfits_eq v : sfits v = sfits_d v := lock_eq _
-- slices.IndexFunc[[]int,int]
abbrev idxFuncI_enc_i : Items := [(.tmp 0, .dat (.slice (.int .i64))), (.tmp 1, .clo 27 [])]
abbrev idxFuncI_enc_o : Items := [(.tmp 0, .di)]
abbrev idxFuncI_enc_r : List RS := [.one]
abbrev idxFuncI_enc_i0 : Items := [(.tmp 0, .dat (.slice (.int .i64))), (.tmp 1, .clo 27 []), (.tmp 7, .di), (.tmp 8, .di)]
abbrev idxFuncI_enc_o0 : Outs := [(.ret, [(.tmp 4, .di)]), (.exit 0, [])]
def idxFuncI_enc_s0 [Lk] : (List Int × Int × Int × Unit) → Option ((List Int × Int × Int × Unit) ⊕ (Int × Unit) ⊕ (Unit) ⊕ Unit) := fun (a0, a1, a2, _) =>
 match (ilt a2 a1) with
 | true => match idx a0 a2 with
  | none => none
  | some x0 => match sfits (x0, ()) with
   | none => none
   | some (y1, _) => match (!y1) with
    | true => some (.inr (.inl (a2, ())))
    | false => some (.inl (a0, a1, (IntKind.wrap .i64 (a2 + 1)), ()))
 | false => some (.inr (.inr (.inl ())))
def idxFuncI_enc_d [Lk] : (List Int × Unit) → Option ((Int × Unit)) := fun (a0, _) =>
 match iterL idxFuncI_enc_s0 many (a0, (dlen a0), 0, ()) with
 | none => none
 | some r => match r with
  | .inl (o0, _) => some (o0, ())
  | .inr r => match r with
   | .inl _ => some ((-1 : Int), ())
   | .inr _ => none
def idxFuncI_enc [Lk] := fun v => Lk.f (idxFuncI_enc_d v)
theorem idxFuncI_enc_eq v : idxFuncI_enc v = idxFuncI_enc_d v := lock_eq _
-- slices.ContainsFunc[[]int,int]
abbrev contFuncI_enc_i : Items := [(.tmp 0, .dat (.slice (.int .i64))), (.tmp 1, .clo 27 [])]
abbrev contFuncI_enc_o : Items := [(.tmp 0, .dat .bool)]
abbrev contFuncI_enc_r : List RS := [.one]
def contFuncI_enc_d [Lk] : (List Int × Unit) → Option ((Bool × Unit)) := fun (a0, _) =>
 match idxFuncI_enc (a0, ()) with
 | none => none
 | some (y0, _) => some ((ile 0 y0), ())
def contFuncI_enc [Lk] := fun v => Lk.f (contFuncI_enc_d v)
theorem contFuncI_enc_eq v : contFuncI_enc v = contFuncI_enc_d v := lock_eq _
-- archipelago/say.Encode
abbrev sencode_i : Items := [(.tmp 0, .dat (.prod (.int .i64) (.prod (.int .i64) (.prod (.slice (.int .i64)) .unit))))]
abbrev sencode_o : Items := [(.tmp 0, .own 5 (.int .u8)), (.tmp 1, .di)]
abbrev sencode_r : List RS := [.one, .one]
abbrev sencode_i0 : Items := [(.tmp 5, .own 5 (.int .u8)), (.tmp 33, .own 3 (.int .i64)), (.tmp 34, .di), (.tmp 35, .di)]
abbrev sencode_o0 : Outs := [(.exit 0, [(.tmp 5, .own 5 (.int .u8))])]
def sencode_s0 [Lk] : (List Int × List Int × Int × Int × Unit) → Option ((List Int × List Int × Int × Int × Unit) ⊕ (List Int × Unit) ⊕ Unit) := fun (a0, a1, a2, a3, _) =>
 match (ilt a3 a2) with
 | true => match idx a1 a3 with
  | none => none
  | some x0 => match shr? .i64 (dget a1 (dnat a3) 0) 8 with
   | none => none
   | some x1 => match (fits ((dlen a0) + (dlen ([(IntKind.wrap .u8 x1), (IntKind.wrap .u8 (dget a1 (dnat a3) 0))] : List (Int))))) with
    | true => some (.inl ((dapp a0 ([(IntKind.wrap .u8 x1), (IntKind.wrap .u8 (dget a1 (dnat a3) 0))] : List (Int))), a1, a2, (IntKind.wrap .i64 (a3 + 1)), ()))
    | false => none
 | false => some (.inr (.inl (a0, ())))
def sencode_d [Lk] : ((Int × Int × (List Int) × Unit) × Unit) → Option ((List Int × Int × Unit)) := fun (a0, _) =>
 match concatI (([([a0.2.1, (dlen a0.2.2.1)] : List (Int)), a0.2.2.1] : List (List Int)), ()) with
 | none => none
 | some (y0, _) => match (!(ieq a0.1 (IntKind.wrap .i64 (IntKind.wrap .u8 a0.1)))) with
  | true => some (([] : List (Int)), 1, ())
  | false => match contFuncI_enc (y0, ()) with
   | none => none
   | some (y1, _) => match y1 with
    | true => some (([] : List (Int)), 1, ())
    | false => match iterL sencode_s0 many (([(IntKind.wrap .u8 a0.1)] : List (Int)), y0, (dlen y0), 0, ()) with
     | none => none
     | some r => match r with
      | .inl (o2, _) => some (o2, 0, ())
      | .inr _ => none
def sencode [Lk] := fun v => Lk.f (sencode_d v)
theorem sencode_eq v : sencode v = sencode_d v := lock_eq _
-- slices.IndexFunc[[]int,int]
abbrev idxFuncI_cthere_i : Items := [(.tmp 0, .dat (.slice (.int .i64))), (.cap 1 0, .box 1), (.cell 0 0, .dat (.slice (.int .i64))), (.tmp 1, .clo 53 [(0, 0)])]
abbrev idxFuncI_cthere_o : Items := [(.obj 0, .box 1), (.cell 0 0, .dat (.slice (.int .i64))), (.tmp 0, .di)]
abbrev idxFuncI_cthere_r : List RS := [.one]
abbrev idxFuncI_cthere_i0 : Items := [(.obj 0, .box 1), (.cell 0 0, .dat (.slice (.int .i64))), (.tmp 0, .dat (.slice (.int .i64))), (.tmp 1, .clo 53 [(0, 0)]), (.tmp 7, .di), (.tmp 8, .di)]
abbrev idxFuncI_cthere_o0 : Outs := [(.ret, [(.obj 0, .box 1), (.cell 0 0, .dat (.slice (.int .i64))), (.tmp 4, .di)]), (.exit 0, [(.obj 0, .box 1), (.cell 0 0, .dat (.slice (.int .i64)))])]
def idxFuncI_cthere_s0 [Lk] : (List Int × List Int × Int × Int × Unit) → Option ((List Int × List Int × Int × Int × Unit) ⊕ (List Int × Int × Unit) ⊕ (List Int × Unit) ⊕ Unit) := fun (a0, a1, a2, a3, _) =>
 match (ilt a3 a2) with
 | true => match idx a1 a3 with
  | none => none
  | some x0 => match (ilt x0 0) with
   | true => some (.inr (.inl (a0, a3, ())))
   | false => match (ile (dlen a0) x0) with
    | true => some (.inr (.inl (a0, a3, ())))
    | false => some (.inl (a0, a1, a2, (IntKind.wrap .i64 (a3 + 1)), ()))
 | false => some (.inr (.inr (.inl (a0, ()))))
def idxFuncI_cthere_d [Lk] : (List Int × List Int × Unit) → Option ((List Int × Int × Unit)) := fun (a0, a1, _) =>
 match iterL idxFuncI_cthere_s0 many (a1, a0, (dlen a0), 0, ()) with
 | none => none
 | some r => match r with
  | .inl (o0, o1, _) => some (o0, o1, ())
  | .inr r => match r with
   | .inl (o2, _) => some (o2, (-1 : Int), ())
   | .inr _ => none
def idxFuncI_cthere [Lk] := fun v => Lk.f (idxFuncI_cthere_d v)
theorem idxFuncI_cthere_eq v : idxFuncI_cthere v = idxFuncI_cthere_d v := lock_eq _
-- slices.ContainsFunc[[]int,int]
abbrev contFuncI_cthere_i : Items := [(.tmp 0, .dat (.slice (.int .i64))), (.cap 1 0, .box 1), (.cell 0 0, .dat (.slice (.int .i64))), (.tmp 1, .clo 53 [(0, 0)])]
abbrev contFuncI_cthere_o : Items := [(.obj 0, .box 1), (.cell 0 0, .dat (.slice (.int .i64))), (.tmp 0, .dat .bool)]
abbrev contFuncI_cthere_r : List RS := [.one]
def contFuncI_cthere_d [Lk] : (List Int × List Int × Unit) → Option ((List Int × Bool × Unit)) := fun (a0, a1, _) =>
 match idxFuncI_cthere (a0, a1, ()) with
 | none => none
 | some (y0, y1, _) => some (y0, (ile 0 y1), ())
def contFuncI_cthere [Lk] := fun v => Lk.f (contFuncI_cthere_d v)
theorem contFuncI_cthere_eq v : contFuncI_cthere v = contFuncI_cthere_d v := lock_eq _
-- (archipelago/say.classes).there
abbrev cthere_i : Items := [(.tmp 0, .dat (.slice (.int .i64))), (.tmp 1, .dat (.slice (.int .i64)))]
abbrev cthere_o : Items := [(.tmp 0, .dat .bool)]
abbrev cthere_r : List RS := [.one]
def cthere_d [Lk] : (List Int × List Int × Unit) → Option ((Bool × Unit)) := fun (a0, a1, _) =>
 match contFuncI_cthere (a1, a0, ()) with
 | none => none
 | some (y0, y1, _) => some ((!y1), ())
def cthere [Lk] := fun v => Lk.f (cthere_d v)
theorem cthere_eq v : cthere v = cthere_d v := lock_eq _
-- (archipelago/say.classes).count
abbrev count1_i : Items := [(.tmp 0, .dat (.slice (.int .i64))), (.cap 1 0, .box 1), (.cell 0 0, .dat (.slice (.int .i64))), (.cap 1 1, .box 3), (.cell 1 0, .di), (.cell 1 1, .di), (.cell 1 2, .di), (.tmp 1, .clo 40 [(0, 0), (1, 0)])]
abbrev count1_o : Items := [(.obj 0, .box 1), (.cell 0 0, .dat (.slice (.int .i64))), (.obj 1, .box 3), (.cell 1 0, .di), (.cell 1 1, .di), (.cell 1 2, .di), (.tmp 0, .di)]
abbrev count1_r : List RS := [.one]
abbrev count1_i0 : Items := [(.obj 0, .box 1), (.cell 0 0, .dat (.slice (.int .i64))), (.obj 1, .box 3), (.cell 1 0, .di), (.cell 1 1, .di), (.cell 1 2, .di), (.tmp 1, .clo 40 [(0, 0), (1, 0)]), (.tmp 4, .di), (.tmp 7, .dat (.slice (.int .i64))), (.tmp 8, .di), (.tmp 9, .di)]
abbrev count1_o0 : Outs := [(.exit 0, [(.obj 0, .box 1), (.cell 0 0, .dat (.slice (.int .i64))), (.obj 1, .box 3), (.cell 1 0, .di), (.cell 1 1, .di), (.cell 1 2, .di), (.tmp 4, .di)])]
def count1_s0 [Lk] : (List Int × Int × Int × Int × Int × List Int × Int × Int × Unit) → Option ((List Int × Int × Int × Int × Int × List Int × Int × Int × Unit) ⊕ (List Int × Int × Int × Int × Int × Unit) ⊕ Unit) := fun (a0, a1, a2, a3, a4, a5, a6, a7, _) =>
 match (ilt a7 a6) with
 | true => match idx a5 a7 with
  | none => none
  | some x0 => match idx a0 a2 with
   | none => none
   | some x1 => match (ieq x0 x1) with
    | true => some (.inl (a0, a1, a2, a3, (IntKind.wrap .i64 (a4 + 1)), a5, a6, (IntKind.wrap .i64 (a7 + 1)), ()))
    | false => some (.inl (a0, a1, a2, a3, a4, a5, a6, (IntKind.wrap .i64 (a7 + 1)), ()))
 | false => some (.inr (.inl (a0, a1, a2, a3, a4, ())))
def count1_d [Lk] : (List Int × List Int × Int × Int × Int × Unit) → Option ((List Int × Int × Int × Int × Int × Unit)) := fun (a0, a1, a2, a3, a4, _) =>
 match iterL count1_s0 many (a1, a2, a3, a4, 0, a0, (dlen a0), 0, ()) with
 | none => none
 | some r => match r with
  | .inl (o0, o1, o2, o3, o4, _) => some (o0, o1, o2, o3, o4, ())
  | .inr _ => none
def count1 [Lk] := fun v => Lk.f (count1_d v)
theorem count1_eq v : count1 v = count1_d v := lock_eq _
-- (archipelago/say.classes).count
abbrev count2_i : Items := [(.tmp 0, .dat (.slice (.int .i64))), (.tmp 1, .clo 41 [])]
abbrev count2_o : Items := [(.tmp 0, .di)]
abbrev count2_r : List RS := [.one]
abbrev count2_i0 : Items := [(.tmp 1, .clo 41 []), (.tmp 4, .di), (.tmp 7, .dat (.slice (.int .i64))), (.tmp 8, .di), (.tmp 9, .di)]
abbrev count2_o0 : Outs := [(.exit 0, [(.tmp 4, .di)])]
def count2_s0 [Lk] : (Int × List Int × Int × Int × Unit) → Option ((Int × List Int × Int × Int × Unit) ⊕ (Int × Unit) ⊕ Unit) := fun (a0, a1, a2, a3, _) =>
 match (ilt a3 a2) with
 | true => match idx a1 a3 with
  | none => none
  | some x0 => match (ieq a3 x0) with
   | true => some (.inl ((IntKind.wrap .i64 (a0 + 1)), a1, a2, (IntKind.wrap .i64 (a3 + 1)), ()))
   | false => some (.inl (a0, a1, a2, (IntKind.wrap .i64 (a3 + 1)), ()))
 | false => some (.inr (.inl (a0, ())))
def count2_d [Lk] : (List Int × Unit) → Option ((Int × Unit)) := fun (a0, _) =>
 match iterL count2_s0 many (0, a0, (dlen a0), 0, ()) with
 | none => none
 | some r => match r with
  | .inl (o0, _) => some (o0, ())
  | .inr _ => none
def count2 [Lk] := fun v => Lk.f (count2_d v)
theorem count2_eq v : count2 v = count2_d v := lock_eq _
-- (archipelago/say.classes).answer
abbrev canswer_i : Items := [(.tmp 0, .dat (.slice (.int .i64))), (.tmp 1, .dat (.prod (.int .i64) (.prod (.int .i64) (.prod (.int .i64) .unit))))]
abbrev canswer_o : Items := [(.tmp 0, .di), (.tmp 1, .di)]
abbrev canswer_r : List RS := [.one, .one]
def canswer_d [Lk] : (List Int × (Int × Int × Int × Unit) × Unit) → Option ((Int × Int × Unit)) := fun (a0, a1, _) =>
 match (ieq a1.1 1) with
 | true => match cthere (a0, ([a1.2.1, a1.2.2.1] : List (Int)), ()) with
  | none => none
  | some (y0, _) => match (!y0) with
   | true => some (0, 10, ())
   | false => match idx a0 a1.2.1 with
    | none => none
    | some x1 => match idx a0 a1.2.2.1 with
     | none => none
     | some x2 => match (ieq x1 x2) with
      | true => some (1, 0, ())
      | false => some (0, 0, ())
 | false => match (ieq a1.1 2) with
  | true => match cthere (a0, ([a1.2.1] : List (Int)), ()) with
   | none => none
   | some (y3, _) => match (!y3) with
    | true => some (0, 10, ())
    | false => match (ieq a1.1 2) with
     | true => match idx a0 a1.2.1 with
      | none => none
      | some x4 => some (x4, 0, ())
     | false => match count1 (a0, a0, a1.1, a1.2.1, a1.2.2.1, ()) with
      | none => none
      | some (y5, y6, y7, y8, y9, _) => some (y9, 0, ())
  | false => match (ieq a1.1 3) with
   | true => match cthere (a0, ([a1.2.1] : List (Int)), ()) with
    | none => none
    | some (y10, _) => match (!y10) with
     | true => some (0, 10, ())
     | false => match (ieq a1.1 2) with
      | true => match idx a0 a1.2.1 with
       | none => none
       | some x11 => some (x11, 0, ())
      | false => match count1 (a0, a0, a1.1, a1.2.1, a1.2.2.1, ()) with
       | none => none
       | some (y12, y13, y14, y15, y16, _) => some (y16, 0, ())
   | false => match (ieq a1.1 4) with
    | true => match count2 (a0, ()) with
     | none => none
     | some (y17, _) => some (y17, 0, ())
    | false => some (0, 1, ())
def canswer [Lk] := fun v => Lk.f (canswer_d v)
theorem canswer_eq v : canswer v = canswer_d v := lock_eq _
-- archipelago/say.Answers
abbrev sanswers_i : Items := [(.tmp 0, .dat (.prod (.int .i64) (.prod (.slice (.prod (.int .i64) (.prod (.int .i64) (.prod (.int .i64) (.prod .bool .unit))))) .unit))), (.tmp 1, .dat (.slice (.prod (.int .i64) (.prod (.int .i64) (.prod (.int .i64) .unit)))))]
abbrev sanswers_o : Items := [(.tmp 0, .own 3 (.int .i64)), (.tmp 1, .di)]
abbrev sanswers_r : List RS := [.one, .one]
abbrev sanswers_i0 : Items := [(.tmp 6, .own 3 (.int .i64)), (.tmp 8, .own 3 (.int .i64)), (.tmp 20, .dat (.slice (.prod (.int .i64) (.prod (.int .i64) (.prod (.int .i64) .unit))))), (.tmp 21, .di), (.tmp 22, .di)]
abbrev sanswers_o0 : Outs := [(.ret, [(.tmp 4, .nil (.int .i64)), (.tmp 5, .di)]), (.exit 0, [(.tmp 8, .own 3 (.int .i64))])]
def sanswers_s0 [Lk] : (List Int × List Int × List (Int × Int × Int × Unit) × Int × Int × Unit) → Option ((List Int × List Int × List (Int × Int × Int × Unit) × Int × Int × Unit) ⊕ (Int × Unit) ⊕ (List Int × Unit) ⊕ Unit) := fun (a0, a1, a2, a3, a4, _) =>
 match (ilt a4 a3) with
 | true => match idx a2 a4 with
  | none => none
  | some x0 => match canswer (a0, (x0.1, (x0.2.1, (x0.2.2.1, ()))), ()) with
   | none => none
   | some (y1, y2, _) => match (!(ieq y2 0)) with
    | true => some (.inr (.inl (y2, ())))
    | false => match (fits ((dlen a1) + (dlen ([y1] : List (Int))))) with
     | true => some (.inl (a0, (dapp a1 ([y1] : List (Int))), a2, a3, (IntKind.wrap .i64 (a4 + 1)), ()))
     | false => none
 | false => some (.inr (.inr (.inl (a1, ()))))
def sanswers_d [Lk] : ((Int × (List (Int × Int × Int × Bool × Unit)) × Unit) × List (Int × Int × Int × Unit) × Unit) → Option ((List Int × Int × Unit)) := fun (a0, a1, _) =>
 match sayof ((a0.1, (a0.2.1, ())), ()) with
 | none => none
 | some (y0, y1, _) => match (!y1) with
  | true => some (([] : List (Int)), 1, ())
  | false => match iterL sanswers_s0 many (y0, ([] : List (Int)), a1, (dlen a1), 0, ()) with
   | none => none
   | some r => match r with
    | .inl (o2, _) => some (([] : List (Int)), o2, ())
    | .inr r => match r with
     | .inl (o3, _) => some (o3, 0, ())
     | .inr _ => none
def sanswers [Lk] := fun v => Lk.f (sanswers_d v)
theorem sanswers_eq v : sanswers v = sanswers_d v := lock_eq _
-- archipelago/say.Answer
abbrev sanswer_i : Items := [(.tmp 0, .dat (.prod (.int .i64) (.prod (.slice (.prod (.int .i64) (.prod (.int .i64) (.prod (.int .i64) (.prod .bool .unit))))) .unit))), (.tmp 1, .dat (.prod (.int .i64) (.prod (.int .i64) (.prod (.int .i64) .unit))))]
abbrev sanswer_o : Items := [(.tmp 0, .di), (.tmp 1, .di)]
abbrev sanswer_r : List RS := [.one, .one]
def sanswer_d [Lk] : ((Int × (List (Int × Int × Int × Bool × Unit)) × Unit) × (Int × Int × Int × Unit) × Unit) → Option ((Int × Int × Unit)) := fun (a0, a1, _) =>
 match sayof ((a0.1, (a0.2.1, ())), ()) with
 | none => none
 | some (y0, y1, _) => match (!y1) with
  | true => some (0, 1, ())
  | false => match canswer (y0, (a1.1, (a1.2.1, (a1.2.2.1, ()))), ()) with
   | none => none
   | some (y2, y3, _) => some (y2, y3, ())
def sanswer [Lk] := fun v => Lk.f (sanswer_d v)
theorem sanswer_eq v : sanswer v = sanswer_d v := lock_eq _
-- archipelago/wire.Number
abbrev wnumber_i : Items := [(.tmp 0, .dat (.slice (.int .u8))), (.tmp 1, .di)]
abbrev wnumber_o : Items := [(.tmp 0, .di), (.tmp 1, .dat .bool)]
abbrev wnumber_r : List RS := [.one, .one]
def wnumber_d [Lk] : (List Int × Int × Unit) → Option ((Int × Bool × Unit)) := fun (a0, a1, _) =>
 match (ilt a1 0) with
 | true => some (0, false, ())
 | false => match (ilt (IntKind.wrap .i64 ((dlen a0) - 2)) a1) with
  | true => some (0, false, ())
  | false => match idx a0 a1 with
   | none => none
   | some x0 => match shl? .i64 (IntKind.wrap .i64 x0) 8 with
    | none => none
    | some x1 => match idx a0 (IntKind.wrap .i64 (a1 + 1)) with
     | none => none
     | some x2 => some ((IntKind.wrap .i64 ((BitVec.ofInt (IntKind.bits .i64) x1 ||| BitVec.ofInt (IntKind.bits .i64) (IntKind.wrap .i64 x2)).toNat)), true, ())
def wnumber [Lk] := fun v => Lk.f (wnumber_d v)
theorem wnumber_eq v : wnumber v = wnumber_d v := lock_eq _
-- archipelago/say.Decode
abbrev sdecode_i : Items := [(.tmp 0, .dat (.slice (.int .u8)))]
abbrev sdecode_o : Items := [(.tmp 0, .di), (.tmp 1, .di), (.tmp 2, .own 3 (.int .i64)), (.tmp 3, .di), (.tmp 4, .di)]
abbrev sdecode_r : List RS := [.agg 3, .one, .one]
abbrev sdecode_i0 : Items := [(.tmp 0, .dat (.slice (.int .u8))), (.tmp 2, .box 3), (.cell 0 0, .di), (.cell 0 1, .di), (.cell 0 2, .nil (.int .i64)), (.tmp 5, .di), (.tmp 7, .box 3), (.cell 1 0, .di), (.cell 1 1, .di), (.cell 1 2, .own 3 (.int .i64)), (.tmp 40, .di), (.tmp 41, .di)]
abbrev sdecode_o0 : Outs := [(.exit 0, [(.tmp 2, .box 3), (.cell 0 0, .di), (.cell 0 1, .di), (.cell 0 2, .nil (.int .i64)), (.tmp 5, .di), (.tmp 7, .box 3), (.cell 1 0, .di), (.cell 1 1, .di), (.cell 1 2, .own 3 (.int .i64))])]
def sdecode_s0 [Lk] : (List Int × Int × Int × Int × Int × Int × List Int × Int × Int × Unit) → Option ((List Int × Int × Int × Int × Int × Int × List Int × Int × Int × Unit) ⊕ (Int × Int × Int × Int × Int × List Int × Unit) ⊕ Unit) := fun (a0, a1, a2, a3, a4, a5, a6, a7, a8, _) =>
 match (ilt a8 a7) with
 | true => match wnumber (a0, (IntKind.wrap .i64 (5 + (IntKind.wrap .i64 (2 * a8)))), ()) with
  | none => none
  | some (y0, y1, _) => match (fits ((dlen a6) + (dlen ([y0] : List (Int))))) with
   | true => some (.inl (a0, a1, a2, a3, a4, a5, (dapp a6 ([y0] : List (Int))), a7, (IntKind.wrap .i64 (a8 + 1)), ()))
   | false => none
 | false => some (.inr (.inl (a1, a2, a3, a4, a5, a6, ())))
def sdecode_d [Lk] : (List Int × Unit) → Option ((Int × Int × List Int × Int × Int × Unit)) := fun (a0, _) =>
 match wnumber (a0, 3, ()) with
 | none => none
 | some (y0, y1, _) => match (!y1) with
  | true => some (0, 0, ([] : List (Int)), (dlen a0), 7, ())
  | false => match (ilt (dlen a0) (IntKind.wrap .i64 (5 + (IntKind.wrap .i64 (2 * y0))))) with
   | true => some (0, 0, ([] : List (Int)), (dlen a0), 7, ())
   | false => match idx a0 0 with
    | none => none
    | some x2 => match wnumber (a0, 1, ()) with
     | none => none
     | some (y3, y4, _) => match iterL sdecode_s0 many (a0, 0, 0, y0, (IntKind.wrap .i64 x2), y3, ([] : List (Int)), y0, 0, ()) with
      | none => none
      | some r => match r with
       | .inl (o5, o6, o7, o8, o9, o10, _) => some (o8, o9, o10, (IntKind.wrap .i64 (5 + (IntKind.wrap .i64 (2 * o7)))), 0, ())
       | .inr _ => none
def sdecode [Lk] := fun v => Lk.f (sdecode_d v)
theorem sdecode_eq v : sdecode v = sdecode_d v := lock_eq _
-- slices.Equal[[]int,int]
abbrev equalI_i : Items := [(.tmp 0, .dat (.slice (.int .i64))), (.tmp 1, .dat (.slice (.int .i64)))]
abbrev equalI_o : Items := [(.tmp 0, .dat .bool)]
abbrev equalI_r : List RS := [.one]
abbrev equalI_i0 : Items := [(.tmp 0, .dat (.slice (.int .i64))), (.tmp 1, .dat (.slice (.int .i64))), (.tmp 12, .di), (.tmp 13, .di)]
abbrev equalI_o0 : Outs := [(.ret, [(.tmp 4, .dat .bool)]), (.exit 0, [])]
def equalI_s0 [Lk] : (List Int × List Int × Int × Int × Unit) → Option ((List Int × List Int × Int × Int × Unit) ⊕ (Bool × Unit) ⊕ (Unit) ⊕ Unit) := fun (a0, a1, a2, a3, _) =>
 match (ilt a3 a2) with
 | true => match idx a0 a3 with
  | none => none
  | some x0 => match idx a1 a3 with
   | none => none
   | some x1 => match (!(ieq x0 x1)) with
    | true => some (.inr (.inl (false, ())))
    | false => some (.inl (a0, a1, a2, (IntKind.wrap .i64 (a3 + 1)), ()))
 | false => some (.inr (.inr (.inl ())))
def equalI_d [Lk] : (List Int × List Int × Unit) → Option ((Bool × Unit)) := fun (a0, a1, _) =>
 match (!(ieq (dlen a0) (dlen a1))) with
 | true => some (false, ())
 | false => match iterL equalI_s0 many (a0, a1, (dlen a0), 0, ()) with
  | none => none
  | some r => match r with
   | .inl (o0, _) => some (o0, ())
   | .inr r => match r with
    | .inl _ => some (true, ())
    | .inr _ => none
def equalI [Lk] := fun v => Lk.f (equalI_d v)
theorem equalI_eq v : equalI v = equalI_d v := lock_eq _
-- archipelago/say.Same
abbrev ssame_i : Items := [(.tmp 0, .dat (.prod (.int .i64) (.prod (.int .i64) (.prod (.slice (.int .i64)) .unit)))), (.tmp 1, .dat (.prod (.int .i64) (.prod (.int .i64) (.prod (.slice (.int .i64)) .unit))))]
abbrev ssame_o : Items := [(.tmp 0, .dat .bool)]
abbrev ssame_r : List RS := [.one]
def ssame_d [Lk] : ((Int × Int × (List Int) × Unit) × (Int × Int × (List Int) × Unit) × Unit) → Option ((Bool × Unit)) := fun (a0, a1, _) =>
 match (ieq a0.1 a1.1) with
 | true => match (ieq a0.2.1 a1.2.1) with
  | true => match equalI (a0.2.2.1, a1.2.2.1, ()) with
   | none => none
   | some (y0, _) => some (y0, ())
  | false => some (false, ())
 | false => some (false, ())
def ssame [Lk] := fun v => Lk.f (ssame_d v)
theorem ssame_eq v : ssame v = ssame_d v := lock_eq _
-- archipelago/archipelagoref27.short
abbrev short27_i : Items := [(.tmp 0, .di)]
abbrev short27_o : Items := [(.tmp 0, .dat .bool)]
abbrev short27_r : List RS := [.one]
def short27_d [Lk] : (Int × Unit) → Option ((Bool × Unit)) := fun (a0, _) =>
 match (ile 0 a0) with
 | true => some ((ile a0 65535), ())
 | false => some (false, ())
def short27 [Lk] := fun v => Lk.f (short27_d v)
theorem short27_eq v : short27 v = short27_d v := lock_eq _
-- archipelago/archipelagoref27.two
abbrev two27_i : Items := [(.tmp 0, .di)]
abbrev two27_o : Items := [(.tmp 0, .own 5 (.int .u8))]
abbrev two27_r : List RS := [.one]
def two27_d [Lk] : (Int × Unit) → Option ((List Int × Unit)) := fun (a0, _) =>
 match quo? .i64 a0 256 with
 | none => none
 | some x0 => match rem? a0 256 with
  | none => none
  | some x1 => some (([(IntKind.wrap .u8 x0), (IntKind.wrap .u8 x1)] : List (Int)), ())
def two27 [Lk] := fun v => Lk.f (two27_d v)
theorem two27_eq v : two27 v = two27_d v := lock_eq _
-- archipelago/archipelagoref27.Encode
abbrev encode27_i : Items := [(.tmp 0, .dat (.prod (.int .i64) (.prod (.int .i64) (.prod (.slice (.int .i64)) .unit))))]
abbrev encode27_o : Items := [(.tmp 0, .own 5 (.int .u8)), (.tmp 1, .di)]
abbrev encode27_r : List RS := [.one, .one]
abbrev encode27_i0 : Items := [(.tmp 1, .box 3), (.cell 0 0, .di), (.cell 0 1, .di), (.cell 0 2, .dat (.slice (.int .i64))), (.tmp 4, .own 5 (.int .u8)), (.tmp 5, .di)]
abbrev encode27_o0 : Outs := [(.ret, [(.tmp 2, .nil (.int .u8)), (.tmp 3, .di)]), (.exit 0, [(.tmp 4, .own 5 (.int .u8))])]
def encode27_s0 [Lk] : (Int × Int × List Int × List Int × Int × Unit) → Option ((Int × Int × List Int × List Int × Int × Unit) ⊕ (Int × Unit) ⊕ (List Int × Unit) ⊕ Unit) := fun (a0, a1, a2, a3, a4, _) =>
 match (ilt a4 (dlen a2)) with
 | true => match idx a2 a4 with
  | none => none
  | some x0 => match short27 (x0, ()) with
   | none => none
   | some (y1, _) => match (!y1) with
    | true => some (.inr (.inl (1, ())))
    | false => match idx a2 a4 with
     | none => none
     | some x2 => match two27 (x2, ()) with
      | none => none
      | some (y3, _) => match (fits ((dlen a3) + (dlen y3))) with
       | true => some (.inl (a0, a1, a2, (dapp a3 y3), (IntKind.wrap .i64 (a4 + 1)), ()))
       | false => none
 | false => some (.inr (.inr (.inl (a3, ()))))
def encode27_d [Lk] : ((Int × Int × (List Int) × Unit) × Unit) → Option ((List Int × Int × Unit)) := fun (a0, _) =>
 match (ilt a0.1 0) with
 | true => some (([] : List (Int)), 1, ())
 | false => match (ilt 255 a0.1) with
  | true => some (([] : List (Int)), 1, ())
  | false => match short27 (a0.2.1, ()) with
   | none => none
   | some (y0, _) => match (!y0) with
    | true => some (([] : List (Int)), 1, ())
    | false => match short27 ((dlen a0.2.2.1), ()) with
     | none => none
     | some (y1, _) => match (!y1) with
      | true => some (([] : List (Int)), 1, ())
      | false => match two27 (a0.2.1, ()) with
       | none => none
       | some (y2, _) => match (fits ((dlen ([(IntKind.wrap .u8 a0.1)] : List (Int))) + (dlen y2))) with
        | true => match two27 ((dlen a0.2.2.1), ()) with
         | none => none
         | some (y3, _) => match (fits ((dlen (dapp ([(IntKind.wrap .u8 a0.1)] : List (Int)) y2)) + (dlen y3))) with
          | true => match iterL encode27_s0 many (a0.1, a0.2.1, a0.2.2.1, (dapp (dapp ([(IntKind.wrap .u8 a0.1)] : List (Int)) y2) y3), 0, ()) with
           | none => none
           | some r => match r with
            | .inl (o4, _) => some (([] : List (Int)), o4, ())
            | .inr r => match r with
             | .inl (o5, _) => some (o5, 0, ())
             | .inr _ => none
          | false => none
        | false => none
def encode27 [Lk] := fun v => Lk.f (encode27_d v)
theorem encode27_eq v : encode27 v = encode27_d v := lock_eq _
-- archipelago/archipelagoref25.Number
abbrev number25_i : Items := [(.tmp 0, .dat (.slice (.int .u8))), (.tmp 1, .di)]
abbrev number25_o : Items := [(.tmp 0, .di), (.tmp 1, .dat .bool)]
abbrev number25_r : List RS := [.one, .one]
def number25_d [Lk] : (List Int × Int × Unit) → Option ((Int × Bool × Unit)) := fun (a0, a1, _) =>
 match (ilt a1 0) with
 | true => some (0, false, ())
 | false => match (ile (IntKind.wrap .i64 ((dlen a0) - 1)) a1) with
  | true => some (0, false, ())
  | false => match idx a0 a1 with
   | none => none
   | some x0 => match idx a0 (IntKind.wrap .i64 (a1 + 1)) with
    | none => none
    | some x1 => some ((IntKind.wrap .i64 ((IntKind.wrap .i64 ((IntKind.wrap .i64 x0) * 256)) + (IntKind.wrap .i64 x1))), true, ())
def number25 [Lk] := fun v => Lk.f (number25_d v)
theorem number25_eq v : number25 v = number25_d v := lock_eq _
-- archipelago/archipelagoref27.Decode
abbrev decode27_i : Items := [(.tmp 0, .dat (.slice (.int .u8)))]
abbrev decode27_o : Items := [(.tmp 0, .di), (.tmp 1, .di), (.tmp 2, .own 3 (.int .i64)), (.tmp 3, .di), (.tmp 4, .di)]
abbrev decode27_r : List RS := [.agg 3, .one, .one]
abbrev decode27_i0 : Items := [(.tmp 0, .dat (.slice (.int .u8))), (.tmp 2, .box 3), (.cell 0 0, .di), (.cell 0 1, .di), (.cell 0 2, .nil (.int .i64)), (.tmp 7, .di), (.tmp 9, .box 3), (.cell 1 0, .di), (.cell 1 1, .di), (.cell 1 2, .own 3 (.int .i64)), (.tmp 10, .di)]
abbrev decode27_o0 : Outs := [(.exit 0, [(.tmp 2, .box 3), (.cell 0 0, .di), (.cell 0 1, .di), (.cell 0 2, .nil (.int .i64)), (.tmp 7, .di), (.tmp 9, .box 3), (.cell 1 0, .di), (.cell 1 1, .di), (.cell 1 2, .own 3 (.int .i64))])]
def decode27_s0 [Lk] : (List Int × Int × Int × Int × Int × Int × List Int × Int × Unit) → Option ((List Int × Int × Int × Int × Int × Int × List Int × Int × Unit) ⊕ (Int × Int × Int × Int × Int × List Int × Unit) ⊕ Unit) := fun (a0, a1, a2, a3, a4, a5, a6, a7, _) =>
 match (ilt a7 a3) with
 | true => match number25 (a0, (IntKind.wrap .i64 (5 + (IntKind.wrap .i64 (2 * a7)))), ()) with
  | none => none
  | some (y0, y1, _) => match (fits ((dlen a6) + (dlen ([y0] : List (Int))))) with
   | true => some (.inl (a0, a1, a2, a3, a4, a5, (dapp a6 ([y0] : List (Int))), (IntKind.wrap .i64 (a7 + 1)), ()))
   | false => none
 | false => some (.inr (.inl (a1, a2, a3, a4, a5, a6, ())))
def decode27_d [Lk] : (List Int × Unit) → Option ((Int × Int × List Int × Int × Int × Unit)) := fun (a0, _) =>
 match number25 (a0, 1, ()) with
 | none => none
 | some (y0, y1, _) => match number25 (a0, 3, ()) with
  | none => none
  | some (y2, y3, _) => match (!y3) with
   | true => some (0, 0, ([] : List (Int)), (dlen a0), 7, ())
   | false => match (ilt (dlen a0) (IntKind.wrap .i64 (5 + (IntKind.wrap .i64 (2 * y2))))) with
    | true => some (0, 0, ([] : List (Int)), (dlen a0), 7, ())
    | false => match idx a0 0 with
     | none => none
     | some x4 => match iterL decode27_s0 many (a0, 0, 0, y2, (IntKind.wrap .i64 x4), y0, ([] : List (Int)), 0, ()) with
      | none => none
      | some r => match r with
       | .inl (o5, o6, o7, o8, o9, o10, _) => some (o8, o9, o10, (IntKind.wrap .i64 (5 + (IntKind.wrap .i64 (2 * o7)))), 0, ())
       | .inr _ => none
def decode27 [Lk] := fun v => Lk.f (decode27_d v)
theorem decode27_eq v : decode27 v = decode27_d v := lock_eq _
-- archipelago/archipelagoref27.Same
abbrev same27_i : Items := [(.tmp 0, .dat (.prod (.int .i64) (.prod (.int .i64) (.prod (.slice (.int .i64)) .unit)))), (.tmp 1, .dat (.prod (.int .i64) (.prod (.int .i64) (.prod (.slice (.int .i64)) .unit))))]
abbrev same27_o : Items := [(.tmp 0, .dat .bool)]
abbrev same27_r : List RS := [.one]
def same27_d [Lk] : ((Int × Int × (List Int) × Unit) × (Int × Int × (List Int) × Unit) × Unit) → Option ((Bool × Unit)) := fun (a0, a1, _) =>
 match (ieq a0.1 a1.1) with
 | true => match (ieq a0.2.1 a1.2.1) with
  | true => match ints01 (a0.2.2.1, a1.2.2.1, ()) with
   | none => none
   | some (y0, _) => some (y0, ())
  | false => some (false, ())
 | false => some (false, ())
def same27 [Lk] := fun v => Lk.f (same27_d v)
theorem same27_eq v : same27 v = same27_d v := lock_eq _
-- archipelago/archipelagoref19.Classes
abbrev classes19_i : Items := [(.tmp 0, .di), (.tmp 1, .dat (.slice (.prod (.int .i64) (.prod (.int .i64) .unit))))]
abbrev classes19_o : Items := [(.tmp 0, .own 3 (.int .i64))]
abbrev classes19_r : List RS := [.one]
abbrev classes19_i2 : Items := [(.tmp 0, .di), (.tmp 1, .dat (.slice (.prod (.int .i64) (.prod (.int .i64) .unit)))), (.tmp 5, .own 3 (.int .i64)), (.tmp 7, .dat .bool), (.tmp 8, .di)]
abbrev classes19_o2 : Outs := [(.exit 4, [(.tmp 0, .di), (.tmp 1, .dat (.slice (.prod (.int .i64) (.prod (.int .i64) .unit)))), (.tmp 5, .own 3 (.int .i64)), (.tmp 7, .dat .bool)])]
def classes19_s2 [Lk] : (Int × List (Int × Int × Unit) × List Int × Bool × Int × Unit) → Option ((Int × List (Int × Int × Unit) × List Int × Bool × Int × Unit) ⊕ (Int × List (Int × Int × Unit) × List Int × Bool × Unit) ⊕ Unit) := fun (a0, a1, a2, a3, a4, _) =>
 match (ilt a4 (dlen a1)) with
 | true => match idx a1 a4 with
  | none => none
  | some x0 => match idx a1 a4 with
   | none => none
   | some x1 => match (ilt x0.1 0) with
    | true => some (.inl (a0, a1, a2, a3, (IntKind.wrap .i64 (a4 + 1)), ()))
    | false => match (ilt x1.2.1 0) with
     | true => some (.inl (a0, a1, a2, a3, (IntKind.wrap .i64 (a4 + 1)), ()))
     | false => match (ile a0 x0.1) with
      | true => some (.inl (a0, a1, a2, a3, (IntKind.wrap .i64 (a4 + 1)), ()))
      | false => match (ile a0 x1.2.1) with
       | true => some (.inl (a0, a1, a2, a3, (IntKind.wrap .i64 (a4 + 1)), ()))
       | false => match idx a2 x0.1 with
        | none => none
        | some x2 => match idx a2 x1.2.1 with
         | none => none
         | some x3 => match (ieq (dget a2 (dnat x0.1) 0) (dget a2 (dnat x1.2.1) 0)) with
          | true => some (.inl (a0, a1, a2, a3, (IntKind.wrap .i64 (a4 + 1)), ()))
          | false => match idx a2 x0.1 with
           | none => none
           | some x4 => match idx a2 x1.2.1 with
            | none => none
            | some x5 => match idx a2 x0.1 with
             | none => none
             | some x6 => match idx (dset a2 (dnat x0.1) (imin (dget a2 (dnat x0.1) 0) (dget a2 (dnat x1.2.1) 0))) x1.2.1 with
              | none => none
              | some x7 => some (.inl (a0, a1, (dset (dset a2 (dnat x0.1) (imin (dget a2 (dnat x0.1) 0) (dget a2 (dnat x1.2.1) 0))) (dnat x1.2.1) (imin (dget a2 (dnat x0.1) 0) (dget a2 (dnat x1.2.1) 0))), true, (IntKind.wrap .i64 (a4 + 1)), ()))
 | false => some (.inr (.inl (a0, a1, a2, a3, ())))
abbrev classes19_i1 : Items := [(.tmp 0, .di), (.tmp 1, .dat (.slice (.prod (.int .i64) (.prod (.int .i64) .unit)))), (.tmp 5, .own 3 (.int .i64)), (.tmp 7, .dat .bool)]
abbrev classes19_o1 : Outs := [(.exit 2, [(.tmp 5, .own 3 (.int .i64))])]
def classes19_s1 [Lk] : (Int × List (Int × Int × Unit) × List Int × Bool × Unit) → Option ((Int × List (Int × Int × Unit) × List Int × Bool × Unit) ⊕ (List Int × Unit) ⊕ Unit) := fun (a0, a1, a2, a3, _) =>
 match a3 with
 | true => match iterL classes19_s2 many (a0, a1, a2, false, 0, ()) with
  | none => none
  | some r => match r with
   | .inl (o0, o1, o2, o3, _) => some (.inl (o0, o1, o2, o3, ()))
   | .inr _ => none
 | false => some (.inr (.inl (a2, ())))
abbrev classes19_i0 : Items := [(.tmp 0, .di), (.tmp 1, .dat (.slice (.prod (.int .i64) (.prod (.int .i64) .unit)))), (.tmp 5, .own 3 (.int .i64)), (.tmp 6, .di)]
abbrev classes19_o0 : Outs := [(.exit 0, [(.tmp 0, .di), (.tmp 1, .dat (.slice (.prod (.int .i64) (.prod (.int .i64) .unit)))), (.tmp 5, .own 3 (.int .i64))])]
def classes19_s0 [Lk] : (Int × List (Int × Int × Unit) × List Int × Int × Unit) → Option ((Int × List (Int × Int × Unit) × List Int × Int × Unit) ⊕ (Int × List (Int × Int × Unit) × List Int × Unit) ⊕ Unit) := fun (a0, a1, a2, a3, _) =>
 match (ilt a3 a0) with
 | true => match (fits ((dlen a2) + (dlen ([a3] : List (Int))))) with
  | true => some (.inl (a0, a1, (dapp a2 ([a3] : List (Int))), (IntKind.wrap .i64 (a3 + 1)), ()))
  | false => none
 | false => some (.inr (.inl (a0, a1, a2, ())))
def classes19_d [Lk] : (Int × List (Int × Int × Unit) × Unit) → Option ((List Int × Unit)) := fun (a0, a1, _) =>
 match iterL classes19_s0 many (a0, a1, ([] : List (Int)), 0, ()) with
 | none => none
 | some r => match r with
  | .inl (o0, o1, o2, _) => match iterL classes19_s1 many (o0, o1, o2, true, ()) with
   | none => none
   | some r => match r with
    | .inl (o3, _) => some (o3, ())
    | .inr _ => none
  | .inr _ => none
def classes19 [Lk] := fun v => Lk.f (classes19_d v)
theorem classes19_eq v : classes19 v = classes19_d v := lock_eq _
-- archipelago/archipelagoref21.Top
abbrev top21_i : Items := [(.tmp 0, .di)]
abbrev top21_o : Items := [(.tmp 0, .di)]
abbrev top21_r : List RS := [.one]
abbrev top21_i0 : Items := [(.tmp 3, .di), (.tmp 4, .di)]
abbrev top21_o0 : Outs := [(.exit 0, [(.tmp 3, .di)])]
def top21_s0 [Lk] : (Int × Int × Unit) → Option ((Int × Int × Unit) ⊕ (Int × Unit) ⊕ Unit) := fun (a0, a1, _) =>
 match (ilt 0 a1) with
 | true => match quo? .i64 a1 2 with
  | none => none
  | some x0 => some (.inl ((IntKind.wrap .i64 (a0 + 1)), x0, ()))
 | false => some (.inr (.inl (a0, ())))
def top21_d [Lk] : (Int × Unit) → Option ((Int × Unit)) := fun (a0, _) =>
 match (ilt a0 1) with
 | true => some (0, ())
 | false => match (ilt 64 a0) with
  | true => some (0, ())
  | false => match iterL top21_s0 many (0, (IntKind.wrap .i64 (a0 - 1)), ()) with
   | none => none
   | some r => match r with
    | .inl (o0, _) => some (o0, ())
    | .inr _ => none
def top21 [Lk] := fun v => Lk.f (top21_d v)
theorem top21_eq v : top21 v = top21_d v := lock_eq _
-- archipelago/archipelagoref21.Right
abbrev right21_i : Items := [(.tmp 0, .dat (.prod (.int .i64) (.prod (.slice (.prod (.int .i64) (.prod (.int .i64) (.prod (.int .i64) (.prod .bool .unit))))) .unit)))]
abbrev right21_o : Items := [(.tmp 0, .dat .bool)]
abbrev right21_r : List RS := [.one]
abbrev right21_i1 : Items := [(.tmp 1, .box 2), (.cell 0 0, .di), (.cell 0 1, .dat (.slice (.prod (.int .i64) (.prod (.int .i64) (.prod (.int .i64) (.prod .bool .unit)))))), (.tmp 3, .own 70 (.prod (.int .i64) (.prod (.int .i64) .unit))), (.tmp 6, .own 3 (.int .i64)), (.tmp 7, .di), (.tmp 8, .di)]
abbrev right21_o1 : Outs := [(.exit 2, [(.tmp 1, .box 2), (.cell 0 0, .di), (.cell 0 1, .dat (.slice (.prod (.int .i64) (.prod (.int .i64) (.prod (.int .i64) (.prod .bool .unit)))))), (.tmp 3, .own 70 (.prod (.int .i64) (.prod (.int .i64) .unit))), (.tmp 7, .di)])]
def right21_s1 [Lk] : (Int × List (Int × Int × Int × Bool × Unit) × List (Int × Int × Unit) × List Int × Int × Int × Unit) → Option ((Int × List (Int × Int × Int × Bool × Unit) × List (Int × Int × Unit) × List Int × Int × Int × Unit) ⊕ (Int × List (Int × Int × Int × Bool × Unit) × List (Int × Int × Unit) × Int × Unit) ⊕ Unit) := fun (a0, a1, a2, a3, a4, a5, _) =>
 match (ilt a5 a0) with
 | true => match idx a3 a5 with
  | none => none
  | some x0 => match (ieq (dget a3 (dnat a5) 0) a5) with
   | true => some (.inl (a0, a1, a2, a3, (IntKind.wrap .i64 (a4 + 1)), (IntKind.wrap .i64 (a5 + 1)), ()))
   | false => some (.inl (a0, a1, a2, a3, a4, (IntKind.wrap .i64 (a5 + 1)), ()))
 | false => some (.inr (.inl (a0, a1, a2, a4, ())))
abbrev right21_i0 : Items := [(.tmp 1, .box 2), (.cell 0 0, .di), (.cell 0 1, .dat (.slice (.prod (.int .i64) (.prod (.int .i64) (.prod (.int .i64) (.prod .bool .unit)))))), (.tmp 3, .own 70 (.prod (.int .i64) (.prod (.int .i64) .unit))), (.tmp 4, .di)]
abbrev right21_o0 : Outs := [(.ret, [(.tmp 2, .dat .bool)]), (.exit 0, [(.tmp 1, .box 2), (.cell 0 0, .di), (.cell 0 1, .dat (.slice (.prod (.int .i64) (.prod (.int .i64) (.prod (.int .i64) (.prod .bool .unit)))))), (.tmp 3, .own 70 (.prod (.int .i64) (.prod (.int .i64) .unit)))])]
def right21_s0 [Lk] : (Int × List (Int × Int × Int × Bool × Unit) × List (Int × Int × Unit) × Int × Unit) → Option ((Int × List (Int × Int × Int × Bool × Unit) × List (Int × Int × Unit) × Int × Unit) ⊕ (Bool × Unit) ⊕ (Int × List (Int × Int × Int × Bool × Unit) × List (Int × Int × Unit) × Unit) ⊕ Unit) := fun (a0, a1, a2, a3, _) =>
 match (ilt a3 (dlen a1)) with
 | true => match idx a1 a3 with
  | none => none
  | some x0 => match (ilt x0.1 0) with
   | true => some (.inr (.inl (false, ())))
   | false => match (ile x0.2.1 x0.1) with
    | true => some (.inr (.inl (false, ())))
    | false => match (ile a0 x0.2.1) with
     | true => some (.inr (.inl (false, ())))
     | false => match (ilt x0.2.2.1 0) with
      | true => some (.inr (.inl (false, ())))
      | false => match top21 (a0, ()) with
       | none => none
       | some (y1, _) => match (ilt y1 x0.2.2.1) with
        | true => some (.inr (.inl (false, ())))
        | false => match (ilt 0 a3) with
         | true => match idx a1 (IntKind.wrap .i64 (a3 - 1)) with
          | none => none
          | some x2 => match (ilt x0.1 x2.1) with
           | true => some (.inr (.inl (false, ())))
           | false => match idx a1 (IntKind.wrap .i64 (a3 - 1)) with
            | none => none
            | some x3 => match (ieq x3.1 x0.1) with
             | true => match idx a1 (IntKind.wrap .i64 (a3 - 1)) with
              | none => none
              | some x4 => match (ile x0.2.1 x4.2.1) with
               | true => some (.inr (.inl (false, ())))
               | false => match x0.2.2.2.1 with
                | true => match (fits ((dlen a2) + (dlen ([(x0.1, (x0.2.1, ()))] : List (Int × Int × Unit))))) with
                 | true => some (.inl (a0, a1, (dapp a2 ([(x0.1, (x0.2.1, ()))] : List (Int × Int × Unit))), (IntKind.wrap .i64 (a3 + 1)), ()))
                 | false => none
                | false => some (.inl (a0, a1, a2, (IntKind.wrap .i64 (a3 + 1)), ()))
             | false => match x0.2.2.2.1 with
              | true => match (fits ((dlen a2) + (dlen ([(x0.1, (x0.2.1, ()))] : List (Int × Int × Unit))))) with
               | true => some (.inl (a0, a1, (dapp a2 ([(x0.1, (x0.2.1, ()))] : List (Int × Int × Unit))), (IntKind.wrap .i64 (a3 + 1)), ()))
               | false => none
              | false => some (.inl (a0, a1, a2, (IntKind.wrap .i64 (a3 + 1)), ()))
         | false => match x0.2.2.2.1 with
          | true => match (fits ((dlen a2) + (dlen ([(x0.1, (x0.2.1, ()))] : List (Int × Int × Unit))))) with
           | true => some (.inl (a0, a1, (dapp a2 ([(x0.1, (x0.2.1, ()))] : List (Int × Int × Unit))), (IntKind.wrap .i64 (a3 + 1)), ()))
           | false => none
          | false => some (.inl (a0, a1, a2, (IntKind.wrap .i64 (a3 + 1)), ()))
 | false => some (.inr (.inr (.inl (a0, a1, a2, ()))))
def right21_d [Lk] : ((Int × (List (Int × Int × Int × Bool × Unit)) × Unit) × Unit) → Option ((Bool × Unit)) := fun (a0, _) =>
 match (ilt a0.1 1) with
 | true => some (false, ())
 | false => match (ilt 64 a0.1) with
  | true => some (false, ())
  | false => match (ilt 400 (dlen a0.2.1)) with
   | true => some (false, ())
   | false => match iterL right21_s0 many (a0.1, a0.2.1, ([] : List (Int × Int × Unit)), 0, ()) with
    | none => none
    | some r => match r with
     | .inl (o0, _) => some (o0, ())
     | .inr r => match r with
      | .inl (o1, o2, o3, _) => match classes19 (o1, o3, ()) with
       | none => none
       | some (y4, _) => match iterL right21_s1 many (o1, o2, o3, y4, 0, 0, ()) with
        | none => none
        | some r => match r with
         | .inl (o5, o6, o7, o8, _) => some ((ieq o8 (IntKind.wrap .i64 (o5 - (dlen o7)))), ())
         | .inr _ => none
      | .inr _ => none
def right21 [Lk] := fun v => Lk.f (right21_d v)
theorem right21_eq v : right21 v = right21_d v := lock_eq _
-- archipelago/archipelagoref21.Edges
abbrev edges21_i : Items := [(.tmp 0, .dat (.prod (.int .i64) (.prod (.slice (.prod (.int .i64) (.prod (.int .i64) (.prod (.int .i64) (.prod .bool .unit))))) .unit)))]
abbrev edges21_o : Items := [(.tmp 0, .own 70 (.prod (.int .i64) (.prod (.int .i64) .unit)))]
abbrev edges21_r : List RS := [.one]
abbrev edges21_i0 : Items := [(.tmp 1, .box 2), (.cell 0 0, .di), (.cell 0 1, .dat (.slice (.prod (.int .i64) (.prod (.int .i64) (.prod (.int .i64) (.prod .bool .unit)))))), (.tmp 3, .own 70 (.prod (.int .i64) (.prod (.int .i64) .unit))), (.tmp 4, .di)]
abbrev edges21_o0 : Outs := [(.exit 0, [(.tmp 3, .own 70 (.prod (.int .i64) (.prod (.int .i64) .unit)))])]
def edges21_s0 [Lk] : (Int × List (Int × Int × Int × Bool × Unit) × List (Int × Int × Unit) × Int × Unit) → Option ((Int × List (Int × Int × Int × Bool × Unit) × List (Int × Int × Unit) × Int × Unit) ⊕ (List (Int × Int × Unit) × Unit) ⊕ Unit) := fun (a0, a1, a2, a3, _) =>
 match (ilt a3 (dlen a1)) with
 | true => match idx a1 a3 with
  | none => none
  | some x0 => match idx a1 a3 with
   | none => none
   | some x1 => match (fits ((dlen a2) + (dlen ([(x0.1, (x1.2.1, ()))] : List (Int × Int × Unit))))) with
    | true => some (.inl (a0, a1, (dapp a2 ([(x0.1, (x1.2.1, ()))] : List (Int × Int × Unit))), (IntKind.wrap .i64 (a3 + 1)), ()))
    | false => none
 | false => some (.inr (.inl (a2, ())))
def edges21_d [Lk] : ((Int × (List (Int × Int × Int × Bool × Unit)) × Unit) × Unit) → Option ((List (Int × Int × Unit) × Unit)) := fun (a0, _) =>
 match right21 ((a0.1, (a0.2.1, ())), ()) with
 | none => none
 | some (y0, _) => match (!y0) with
  | true => some (([] : List (Int × Int × Unit)), ())
  | false => match iterL edges21_s0 many (a0.1, a0.2.1, ([] : List (Int × Int × Unit)), 0, ()) with
   | none => none
   | some r => match r with
    | .inl (o1, _) => some (o1, ())
    | .inr _ => none
def edges21 [Lk] := fun v => Lk.f (edges21_d v)
theorem edges21_eq v : edges21 v = edges21_d v := lock_eq _
-- archipelago/archipelagoref26.Vertices
abbrev vertices26_i : Items := [(.tmp 0, .dat (.prod (.int .i64) (.prod (.slice (.prod (.int .i64) (.prod (.int .i64) .unit))) (.prod (.slice (.prod (.int .i64) (.prod (.int .i64) (.prod (.int .i64) .unit)))) .unit))))]
abbrev vertices26_o : Items := [(.tmp 0, .own 3 (.int .i64))]
abbrev vertices26_r : List RS := [.one]
abbrev vertices26_i1 : Items := [(.tmp 1, .box 3), (.cell 0 0, .di), (.cell 0 1, .dat (.slice (.prod (.int .i64) (.prod (.int .i64) .unit)))), (.cell 0 2, .dat (.slice (.prod (.int .i64) (.prod (.int .i64) (.prod (.int .i64) .unit))))), (.tmp 3, .own 3 (.int .i64)), (.tmp 5, .di)]
abbrev vertices26_o1 : Outs := [(.exit 2, [(.tmp 3, .own 3 (.int .i64))])]
def vertices26_s1 [Lk] : (Int × List (Int × Int × Unit) × List (Int × Int × Int × Unit) × List Int × Int × Unit) → Option ((Int × List (Int × Int × Unit) × List (Int × Int × Int × Unit) × List Int × Int × Unit) ⊕ (List Int × Unit) ⊕ Unit) := fun (a0, a1, a2, a3, a4, _) =>
 match (ilt a4 (dlen a2)) with
 | true => match idx a2 a4 with
  | none => none
  | some x0 => match (ile 1 x0.1) with
   | true => match (ile x0.1 3) with
    | true => match (fits ((dlen a3) + (dlen ([x0.2.1] : List (Int))))) with
     | true => match (ieq x0.1 1) with
      | true => match (fits ((dlen (dapp a3 ([x0.2.1] : List (Int)))) + (dlen ([x0.2.2.1] : List (Int))))) with
       | true => some (.inl (a0, a1, a2, (dapp (dapp a3 ([x0.2.1] : List (Int))) ([x0.2.2.1] : List (Int))), (IntKind.wrap .i64 (a4 + 1)), ()))
       | false => none
      | false => some (.inl (a0, a1, a2, (dapp a3 ([x0.2.1] : List (Int))), (IntKind.wrap .i64 (a4 + 1)), ()))
     | false => none
    | false => match (ieq x0.1 1) with
     | true => match (fits ((dlen a3) + (dlen ([x0.2.2.1] : List (Int))))) with
      | true => some (.inl (a0, a1, a2, (dapp a3 ([x0.2.2.1] : List (Int))), (IntKind.wrap .i64 (a4 + 1)), ()))
      | false => none
     | false => some (.inl (a0, a1, a2, a3, (IntKind.wrap .i64 (a4 + 1)), ()))
   | false => match (ieq x0.1 1) with
    | true => match (fits ((dlen a3) + (dlen ([x0.2.2.1] : List (Int))))) with
     | true => some (.inl (a0, a1, a2, (dapp a3 ([x0.2.2.1] : List (Int))), (IntKind.wrap .i64 (a4 + 1)), ()))
     | false => none
    | false => some (.inl (a0, a1, a2, a3, (IntKind.wrap .i64 (a4 + 1)), ()))
 | false => some (.inr (.inl (a3, ())))
abbrev vertices26_i0 : Items := [(.tmp 1, .box 3), (.cell 0 0, .di), (.cell 0 1, .dat (.slice (.prod (.int .i64) (.prod (.int .i64) .unit)))), (.cell 0 2, .dat (.slice (.prod (.int .i64) (.prod (.int .i64) (.prod (.int .i64) .unit))))), (.tmp 3, .own 3 (.int .i64)), (.tmp 4, .di)]
abbrev vertices26_o0 : Outs := [(.exit 0, [(.tmp 1, .box 3), (.cell 0 0, .di), (.cell 0 1, .dat (.slice (.prod (.int .i64) (.prod (.int .i64) .unit)))), (.cell 0 2, .dat (.slice (.prod (.int .i64) (.prod (.int .i64) (.prod (.int .i64) .unit))))), (.tmp 3, .own 3 (.int .i64))])]
def vertices26_s0 [Lk] : (Int × List (Int × Int × Unit) × List (Int × Int × Int × Unit) × List Int × Int × Unit) → Option ((Int × List (Int × Int × Unit) × List (Int × Int × Int × Unit) × List Int × Int × Unit) ⊕ (Int × List (Int × Int × Unit) × List (Int × Int × Int × Unit) × List Int × Unit) ⊕ Unit) := fun (a0, a1, a2, a3, a4, _) =>
 match (ilt a4 (dlen a1)) with
 | true => match idx a1 a4 with
  | none => none
  | some x0 => match idx a1 a4 with
   | none => none
   | some x1 => match (fits ((dlen a3) + (dlen ([x0.1, x1.2.1] : List (Int))))) with
    | true => some (.inl (a0, a1, a2, (dapp a3 ([x0.1, x1.2.1] : List (Int))), (IntKind.wrap .i64 (a4 + 1)), ()))
    | false => none
 | false => some (.inr (.inl (a0, a1, a2, a3, ())))
def vertices26_d [Lk] : ((Int × (List (Int × Int × Unit)) × (List (Int × Int × Int × Unit)) × Unit) × Unit) → Option ((List Int × Unit)) := fun (a0, _) =>
 match iterL vertices26_s0 many (a0.1, a0.2.1, a0.2.2.1, ([] : List (Int)), 0, ()) with
 | none => none
 | some r => match r with
  | .inl (o0, o1, o2, o3, _) => match iterL vertices26_s1 many (o0, o1, o2, o3, 0, ()) with
   | none => none
   | some r => match r with
    | .inl (o4, _) => some (o4, ())
    | .inr _ => none
  | .inr _ => none
def vertices26 [Lk] := fun v => Lk.f (vertices26_d v)
theorem vertices26_eq v : vertices26 v = vertices26_d v := lock_eq _
-- archipelago/archipelagoref27.Answer
abbrev answer27_i : Items := [(.tmp 0, .dat (.prod (.int .i64) (.prod (.slice (.prod (.int .i64) (.prod (.int .i64) (.prod (.int .i64) (.prod .bool .unit))))) .unit))), (.tmp 1, .dat (.prod (.int .i64) (.prod (.int .i64) (.prod (.int .i64) .unit))))]
abbrev answer27_o : Items := [(.tmp 0, .di), (.tmp 1, .di)]
abbrev answer27_r : List RS := [.one, .one]
abbrev answer27_i1 : Items := [(.tmp 2, .box 2), (.cell 0 0, .di), (.cell 0 1, .dat (.slice (.prod (.int .i64) (.prod (.int .i64) (.prod (.int .i64) (.prod .bool .unit)))))), (.tmp 3, .box 3), (.cell 1 0, .di), (.cell 1 1, .di), (.cell 1 2, .di), (.tmp 8, .own 3 (.int .i64)), (.tmp 9, .di), (.tmp 10, .di)]
abbrev answer27_o1 : Outs := [(.exit 2, [(.tmp 3, .box 3), (.cell 0 0, .di), (.cell 0 1, .di), (.cell 0 2, .di), (.tmp 8, .own 3 (.int .i64)), (.tmp 9, .di)])]
def answer27_s1 [Lk] : (Int × List (Int × Int × Int × Bool × Unit) × Int × Int × Int × List Int × Int × Int × Unit) → Option ((Int × List (Int × Int × Int × Bool × Unit) × Int × Int × Int × List Int × Int × Int × Unit) ⊕ (Int × Int × Int × List Int × Int × Unit) ⊕ Unit) := fun (a0, a1, a2, a3, a4, a5, a6, a7, _) =>
 match (ilt a7 a0) with
 | true => match (ieq a2 4) with
  | true => match idx a5 a7 with
   | none => none
   | some x0 => match (ieq (dget a5 (dnat a7) 0) a7) with
    | true => some (.inl (a0, a1, a2, a3, a4, a5, (IntKind.wrap .i64 (a6 + 1)), (IntKind.wrap .i64 (a7 + 1)), ()))
    | false => match (ieq a2 3) with
     | true => match idx a5 a7 with
      | none => none
      | some x1 => match idx a5 a3 with
       | none => none
       | some x2 => match (ieq (dget a5 (dnat a7) 0) (dget a5 (dnat a3) 0)) with
        | true => some (.inl (a0, a1, a2, a3, a4, a5, (IntKind.wrap .i64 (a6 + 1)), (IntKind.wrap .i64 (a7 + 1)), ()))
        | false => some (.inl (a0, a1, a2, a3, a4, a5, a6, (IntKind.wrap .i64 (a7 + 1)), ()))
     | false => some (.inl (a0, a1, a2, a3, a4, a5, a6, (IntKind.wrap .i64 (a7 + 1)), ()))
  | false => match (ieq a2 3) with
   | true => match idx a5 a7 with
    | none => none
    | some x3 => match idx a5 a3 with
     | none => none
     | some x4 => match (ieq (dget a5 (dnat a7) 0) (dget a5 (dnat a3) 0)) with
      | true => some (.inl (a0, a1, a2, a3, a4, a5, (IntKind.wrap .i64 (a6 + 1)), (IntKind.wrap .i64 (a7 + 1)), ()))
      | false => some (.inl (a0, a1, a2, a3, a4, a5, a6, (IntKind.wrap .i64 (a7 + 1)), ()))
   | false => some (.inl (a0, a1, a2, a3, a4, a5, a6, (IntKind.wrap .i64 (a7 + 1)), ()))
 | false => some (.inr (.inl (a2, a3, a4, a5, a6, ())))
abbrev answer27_i0 : Items := [(.tmp 2, .box 2), (.cell 0 0, .di), (.cell 0 1, .dat (.slice (.prod (.int .i64) (.prod (.int .i64) (.prod (.int .i64) (.prod .bool .unit)))))), (.tmp 3, .box 3), (.cell 1 0, .di), (.cell 1 1, .di), (.cell 1 2, .di), (.tmp 6, .own 3 (.int .i64)), (.tmp 7, .di)]
abbrev answer27_o0 : Outs := [(.ret, [(.tmp 4, .di), (.tmp 5, .di)]), (.exit 0, [(.tmp 2, .box 2), (.cell 0 0, .di), (.cell 0 1, .dat (.slice (.prod (.int .i64) (.prod (.int .i64) (.prod (.int .i64) (.prod .bool .unit)))))), (.tmp 3, .box 3), (.cell 1 0, .di), (.cell 1 1, .di), (.cell 1 2, .di)])]
def answer27_s0 [Lk] : (Int × List (Int × Int × Int × Bool × Unit) × Int × Int × Int × List Int × Int × Unit) → Option ((Int × List (Int × Int × Int × Bool × Unit) × Int × Int × Int × List Int × Int × Unit) ⊕ (Int × Int × Unit) ⊕ (Int × List (Int × Int × Int × Bool × Unit) × Int × Int × Int × Unit) ⊕ Unit) := fun (a0, a1, a2, a3, a4, a5, a6, _) =>
 match (ilt a6 (dlen a5)) with
 | true => match idx a5 a6 with
  | none => none
  | some x0 => match (ilt (dget a5 (dnat a6) 0) 0) with
   | true => some (.inr (.inl (0, 10, ())))
   | false => match idx a5 a6 with
    | none => none
    | some x1 => match (ile a0 (dget a5 (dnat a6) 0)) with
     | true => some (.inr (.inl (0, 10, ())))
     | false => some (.inl (a0, a1, a2, a3, a4, a5, (IntKind.wrap .i64 (a6 + 1)), ()))
 | false => some (.inr (.inr (.inl (a0, a1, a2, a3, a4, ()))))
def answer27_d [Lk] : ((Int × (List (Int × Int × Int × Bool × Unit)) × Unit) × (Int × Int × Int × Unit) × Unit) → Option ((Int × Int × Unit)) := fun (a0, a1, _) =>
 match right21 ((a0.1, (a0.2.1, ())), ()) with
 | none => none
 | some (y0, _) => match (!y0) with
  | true => some (0, 1, ())
  | false => match (ilt a1.1 1) with
   | true => some (0, 1, ())
   | false => match (ilt 4 a1.1) with
    | true => some (0, 1, ())
    | false => match vertices26 ((0, (([] : List (Int × Int × Unit)), (([(a1.1, (a1.2.1, (a1.2.2.1, ())))] : List (Int × Int × Int × Unit)), ()))), ()) with
     | none => none
     | some (y1, _) => match iterL answer27_s0 many (a0.1, a0.2.1, a1.1, a1.2.1, a1.2.2.1, y1, 0, ()) with
      | none => none
      | some r => match r with
       | .inl (o2, o3, _) => some (o2, o3, ())
       | .inr r => match r with
        | .inl (o4, o5, o6, o7, o8, _) => match edges21 ((o4, (o5, ())), ()) with
         | none => none
         | some (y9, _) => match classes19 (o4, y9, ()) with
          | none => none
          | some (y10, _) => match iterL answer27_s1 many (o4, o5, o6, o7, o8, y10, 0, 0, ()) with
           | none => none
           | some r => match r with
            | .inl (o11, o12, o13, o14, o15, _) => match (ieq o11 1) with
             | true => match idx o14 o12 with
              | none => none
              | some x16 => match idx o14 o13 with
               | none => none
               | some x17 => match (ieq (dget o14 (dnat o12) 0) (dget o14 (dnat o13) 0)) with
                | true => some (1, 0, ())
                | false => match (ieq o11 2) with
                 | true => match idx o14 o12 with
                  | none => none
                  | some x18 => some ((dget o14 (dnat o12) 0), 0, ())
                 | false => some (o15, 0, ())
             | false => match (ieq o11 2) with
              | true => match idx o14 o12 with
               | none => none
               | some x19 => some ((dget o14 (dnat o12) 0), 0, ())
              | false => some (o15, 0, ())
            | .inr _ => none
        | .inr _ => none
def answer27 [Lk] := fun v => Lk.f (answer27_d v)
theorem answer27_eq v : answer27 v = answer27_d v := lock_eq _
-- archipelago/archipelagoref27.Answers
abbrev answers27_i : Items := [(.tmp 0, .dat (.prod (.int .i64) (.prod (.slice (.prod (.int .i64) (.prod (.int .i64) (.prod (.int .i64) (.prod .bool .unit))))) .unit))), (.tmp 1, .dat (.slice (.prod (.int .i64) (.prod (.int .i64) (.prod (.int .i64) .unit)))))]
abbrev answers27_o : Items := [(.tmp 0, .own 3 (.int .i64)), (.tmp 1, .di)]
abbrev answers27_r : List RS := [.one, .one]
abbrev answers27_i0 : Items := [(.tmp 1, .dat (.slice (.prod (.int .i64) (.prod (.int .i64) (.prod (.int .i64) .unit))))), (.tmp 2, .box 2), (.cell 0 0, .di), (.cell 0 1, .dat (.slice (.prod (.int .i64) (.prod (.int .i64) (.prod (.int .i64) (.prod .bool .unit)))))), (.tmp 6, .own 3 (.int .i64)), (.tmp 7, .di)]
abbrev answers27_o0 : Outs := [(.ret, [(.tmp 4, .nil (.int .i64)), (.tmp 5, .di)]), (.exit 0, [(.tmp 6, .own 3 (.int .i64))])]
def answers27_s0 [Lk] : (List (Int × Int × Int × Unit) × Int × List (Int × Int × Int × Bool × Unit) × List Int × Int × Unit) → Option ((List (Int × Int × Int × Unit) × Int × List (Int × Int × Int × Bool × Unit) × List Int × Int × Unit) ⊕ (Int × Unit) ⊕ (List Int × Unit) ⊕ Unit) := fun (a0, a1, a2, a3, a4, _) =>
 match (ilt a4 (dlen a0)) with
 | true => match idx a0 a4 with
  | none => none
  | some x0 => match answer27 ((a1, (a2, ())), (x0.1, (x0.2.1, (x0.2.2.1, ()))), ()) with
   | none => none
   | some (y1, y2, _) => match (!(ieq y2 0)) with
    | true => some (.inr (.inl (y2, ())))
    | false => match (fits ((dlen a3) + (dlen ([y1] : List (Int))))) with
     | true => some (.inl (a0, a1, a2, (dapp a3 ([y1] : List (Int))), (IntKind.wrap .i64 (a4 + 1)), ()))
     | false => none
 | false => some (.inr (.inr (.inl (a3, ()))))
def answers27_d [Lk] : ((Int × (List (Int × Int × Int × Bool × Unit)) × Unit) × List (Int × Int × Int × Unit) × Unit) → Option ((List Int × Int × Unit)) := fun (a0, a1, _) =>
 match right21 ((a0.1, (a0.2.1, ())), ()) with
 | none => none
 | some (y0, _) => match (!y0) with
  | true => some (([] : List (Int)), 1, ())
  | false => match iterL answers27_s0 many (a1, a0.1, a0.2.1, ([] : List (Int)), 0, ()) with
   | none => none
   | some r => match r with
    | .inl (o1, _) => some (([] : List (Int)), o1, ())
    | .inr r => match r with
     | .inl (o2, _) => some (o2, 0, ())
     | .inr _ => none
def answers27 [Lk] := fun v => Lk.f (answers27_d v)
theorem answers27_eq v : answers27 v = answers27_d v := lock_eq _
-- archipelago/archipelagolaw27.alive
abbrev alive27_i : Items := []
abbrev alive27_o : Items := [(.tmp 0, .dat .bool)]
abbrev alive27_r : List RS := [.one]
def alive27_d [Lk] : (Unit) → Option ((Bool × Unit)) := fun _ =>
 match sanswers ((4, (([(0, (2, (0, (true, ())))), (2, (3, (0, (true, ()))))] : List (Int × Int × Int × Bool × Unit)), ())), ([(1, (3, (0, ()))), (1, (1, (0, ()))), (2, (3, (0, ()))), (3, (2, (0, ()))), (4, (0, (0, ())))] : List (Int × Int × Int × Unit)), ()) with
 | none => none
 | some (y0, y1, _) => match sanswer ((4, (([(0, (2, (0, (true, ())))), (2, (3, (0, (true, ()))))] : List (Int × Int × Int × Bool × Unit)), ())), (2, (4, (0, ()))), ()) with
  | none => none
  | some (y2, y3, _) => match sencode ((2, (259, (([1, 65535] : List (Int)), ()))), ()) with
   | none => none
   | some (y4, y5, _) => match (fits ((dlen y4) + (dlen ([9] : List (Int))))) with
    | true => match sdecode ((dapp y4 ([9] : List (Int))), ()) with
     | none => none
     | some (y6, y7, y8, y9, y10, _) => match sdecode (([0, 0, 0, 0, 1, 5] : List (Int)), ()) with
      | none => none
      | some (y11, y12, y13, y14, y15, _) => match (ieq y1 0) with
       | true => match (ieq y3 10) with
        | true => match (ieq y5 0) with
         | true => match (ieq y10 0) with
          | true => match (ieq y15 7) with
           | true => match (ieq y14 6) with
            | true => match ints01 (y0, ([1, 0, 0, 3, 2] : List (Int)), ()) with
             | none => none
             | some (y16, _) => match y16 with
              | true => match (seq? (dbytes y4) ([2, 1, 3, 0, 2, 0, 1, 255, 255] : List (Int))) with
               | true => match (ieq y9 9) with
                | true => match ssame ((y6, (y7, (y8, ()))), (2, (259, (([1, 65535] : List (Int)), ()))), ()) with
                 | none => none
                 | some (y17, _) => some (y17, ())
                | false => some (false, ())
               | false => some (false, ())
              | false => some (false, ())
            | false => some (false, ())
           | false => some (false, ())
          | false => some (false, ())
         | false => some (false, ())
        | false => some (false, ())
       | false => some (false, ())
    | false => none
def alive27 [Lk] := fun v => Lk.f (alive27_d v)
theorem alive27_eq v : alive27 v = alive27_d v := lock_eq _
-- archipelago/archipelagolaw27.SayAnswers
abbrev sayAnswers_i : Items := [(.tmp 0, .dat (.prod (.int .i64) (.prod (.slice (.prod (.int .i64) (.prod (.int .i64) (.prod (.int .i64) (.prod .bool .unit))))) .unit))), (.tmp 1, .dat (.slice (.prod (.int .i64) (.prod (.int .i64) (.prod (.int .i64) .unit)))))]
abbrev sayAnswers_o : Items := [(.tmp 0, .dat .bool)]
abbrev sayAnswers_r : List RS := [.one]
abbrev sayAnswers_i0 : Items := [(.tmp 1, .dat (.slice (.prod (.int .i64) (.prod (.int .i64) (.prod (.int .i64) .unit))))), (.tmp 2, .box 2), (.cell 0 0, .di), (.cell 0 1, .dat (.slice (.prod (.int .i64) (.prod (.int .i64) (.prod (.int .i64) (.prod .bool .unit)))))), (.tmp 5, .own 3 (.int .i64)), (.tmp 6, .di), (.tmp 7, .own 3 (.int .i64)), (.tmp 8, .di), (.tmp 9, .di)]
abbrev sayAnswers_o0 : Outs := [(.ret, [(.tmp 4, .dat .bool)]), (.exit 0, [(.tmp 5, .own 3 (.int .i64)), (.tmp 6, .di), (.tmp 7, .own 3 (.int .i64)), (.tmp 8, .di)])]
def sayAnswers_s0 [Lk] : (List (Int × Int × Int × Unit) × Int × List (Int × Int × Int × Bool × Unit) × List Int × Int × List Int × Int × Int × Unit) → Option ((List (Int × Int × Int × Unit) × Int × List (Int × Int × Int × Bool × Unit) × List Int × Int × List Int × Int × Int × Unit) ⊕ (Bool × Unit) ⊕ (List Int × Int × List Int × Int × Unit) ⊕ Unit) := fun (a0, a1, a2, a3, a4, a5, a6, a7, _) =>
 match (ilt a7 (dlen a0)) with
 | true => match idx a0 a7 with
  | none => none
  | some x0 => match sanswer ((a1, (a2, ())), (x0.1, (x0.2.1, (x0.2.2.1, ()))), ()) with
   | none => none
   | some (y1, y2, _) => match idx a0 a7 with
    | none => none
    | some x3 => match answer27 ((a1, (a2, ())), (x3.1, (x3.2.1, (x3.2.2.1, ()))), ()) with
     | none => none
     | some (y4, y5, _) => match (!(ieq y1 y4)) with
      | true => some (.inr (.inl (false, ())))
      | false => match (!(ieq y2 y5)) with
       | true => some (.inr (.inl (false, ())))
       | false => some (.inl (a0, a1, a2, a3, a4, a5, a6, (IntKind.wrap .i64 (a7 + 1)), ()))
 | false => some (.inr (.inr (.inl (a3, a4, a5, a6, ()))))
def sayAnswers_d [Lk] : ((Int × (List (Int × Int × Int × Bool × Unit)) × Unit) × List (Int × Int × Int × Unit) × Unit) → Option ((Bool × Unit)) := fun (a0, a1, _) =>
 match alive27 () with
 | none => none
 | some (y0, _) => match (!y0) with
  | true => some (false, ())
  | false => match great27 ((a0.1, (a0.2.1, ())), ()) with
   | none => none
   | some (y1, _) => match y1 with
    | true => some (true, ())
    | false => match (ilt 20 (dlen a1)) with
     | true => some (true, ())
     | false => match sanswers ((a0.1, (a0.2.1, ())), a1, ()) with
      | none => none
      | some (y2, y3, _) => match answers27 ((a0.1, (a0.2.1, ())), a1, ()) with
       | none => none
       | some (y4, y5, _) => match iterL sayAnswers_s0 many (a1, a0.1, a0.2.1, y2, y3, y4, y5, 0, ()) with
        | none => none
        | some r => match r with
         | .inl (o6, _) => some (o6, ())
         | .inr r => match r with
          | .inl (o7, o8, o9, o10, _) => match ints01 (o7, o9, ()) with
           | none => none
           | some (y11, _) => match y11 with
            | true => some ((ieq o8 o10), ())
            | false => some (false, ())
          | .inr _ => none
def sayAnswers [Lk] := fun v => Lk.f (sayAnswers_d v)
theorem sayAnswers_eq v : sayAnswers v = sayAnswers_d v := lock_eq _
-- archipelago/archipelagolaw27.SayBytes
abbrev sayBytes_i : Items := [(.tmp 0, .dat (.prod (.int .i64) (.prod (.int .i64) (.prod (.slice (.int .i64)) .unit)))), (.tmp 1, .dat (.prod (.int .i64) (.prod (.int .i64) (.prod (.slice (.int .i64)) .unit)))), (.tmp 2, .dat (.slice (.int .u8)))]
abbrev sayBytes_o : Items := [(.tmp 0, .dat .bool)]
abbrev sayBytes_r : List RS := [.one]
def sayBytes_d [Lk] : ((Int × Int × (List Int) × Unit) × (Int × Int × (List Int) × Unit) × List Int × Unit) → Option ((Bool × Unit)) := fun (a0, a1, a2, _) =>
 match alive27 () with
 | none => none
 | some (y0, _) => match (!y0) with
  | true => some (false, ())
  | false => match (ilt 200 (dlen a0.2.2.1)) with
   | true => some (true, ())
   | false => match (ilt 200 (dlen a1.2.2.1)) with
    | true => some (true, ())
    | false => match (ilt 1000 (dlen a2)) with
     | true => some (true, ())
     | false => match sencode ((a0.1, (a0.2.1, (a0.2.2.1, ()))), ()) with
      | none => none
      | some (y1, y2, _) => match encode27 ((a0.1, (a0.2.1, (a0.2.2.1, ()))), ()) with
       | none => none
       | some (y3, y4, _) => match sdecode (a2, ()) with
        | none => none
        | some (y5, y6, y7, y8, y9, _) => match decode27 (a2, ()) with
         | none => none
         | some (y10, y11, y12, y13, y14, _) => match (!(seq? (dbytes y1) (dbytes y3))) with
          | true => some (false, ())
          | false => match (!(ieq y2 y4)) with
           | true => some (false, ())
           | false => match same27 ((y5, (y6, (y7, ()))), (y10, (y11, (y12, ()))), ()) with
            | none => none
            | some (y15, _) => match (!y15) with
             | true => some (false, ())
             | false => match (!(ieq y8 y13)) with
              | true => some (false, ())
              | false => match (!(ieq y9 y14)) with
               | true => some (false, ())
               | false => match ssame ((a0.1, (a0.2.1, (a0.2.2.1, ()))), (a1.1, (a1.2.1, (a1.2.2.1, ()))), ()) with
                | none => none
                | some (y16, _) => match same27 ((a0.1, (a0.2.1, (a0.2.2.1, ()))), (a1.1, (a1.2.1, (a1.2.2.1, ()))), ()) with
                 | none => none
                 | some (y17, _) => match (!(y16 == y17)) with
                  | true => some (false, ())
                  | false => match (ieq y2 0) with
                   | true => match (fits ((dlen ([] : List (Int))) + (dlen y1))) with
                    | true => match (fits ((dlen (dapp ([] : List (Int)) y1)) + (dlen a2))) with
                     | true => match sdecode ((dapp (dapp ([] : List (Int)) y1) a2), ()) with
                      | none => none
                      | some (y18, y19, y20, y21, y22, _) => match (!(ieq y22 0)) with
                       | true => some (false, ())
                       | false => match (!(ieq y21 (dlen y1))) with
                        | true => some (false, ())
                        | false => match same27 ((y18, (y19, (y20, ()))), (a0.1, (a0.2.1, (a0.2.2.1, ()))), ()) with
                         | none => none
                         | some (y23, _) => match (!y23) with
                          | true => some (false, ())
                          | false => match (!(ieq y9 0)) with
                           | true => some ((ieq y8 (dlen a2)), ())
                           | false => match sencode ((y5, (y6, (y7, ()))), ()) with
                            | none => none
                            | some (y24, y25, _) => match (ieq y25 0) with
                             | true => match (ile y8 (dlen a2)) with
                              | true => match subl a2 0 y8 with
                               | none => none
                               | some x26 => some ((seq? (dbytes y24) (dbytes x26)), ())
                              | false => some (false, ())
                             | false => some (false, ())
                     | false => none
                    | false => none
                   | false => match (!(ieq y9 0)) with
                    | true => some ((ieq y8 (dlen a2)), ())
                    | false => match sencode ((y5, (y6, (y7, ()))), ()) with
                     | none => none
                     | some (y27, y28, _) => match (ieq y28 0) with
                      | true => match (ile y8 (dlen a2)) with
                       | true => match subl a2 0 y8 with
                        | none => none
                        | some x29 => some ((seq? (dbytes y27) (dbytes x29)), ())
                       | false => some (false, ())
                      | false => some (false, ())
def sayBytes [Lk] := fun v => Lk.f (sayBytes_d v)
theorem sayBytes_eq v : sayBytes v = sayBytes_d v := lock_eq _
-- archipelago/archipelagolaw27.SayClasses
end
end Go.Pev
end
section

end
section
namespace Go.Pev.Pl
set_option linter.unusedSimpArgs false
def sh (n : Int) : Prop := 0 ≤ n ∧ n ≤ 65535
instance (n : Int) : Decidable (sh n) := inferInstanceAs (Decidable (_ ∧ _))
def tw (n : Int) : List Int := [n / 256, n % 256]
def by8 (b : List Int) : Prop := ∀ x ∈ b, 0 ≤ x ∧ x ≤ 255
theorem wrap_u8 (n : Int) : IntKind.wrap .u8 n = n % 256 := by
  simp [IntKind.wrap, IntKind.bits, IntKind.signed]
theorem wrap_u16 (n : Int) : IntKind.wrap .u16 n = n % 65536 := by
  simp [IntKind.wrap, IntKind.bits, IntKind.signed]
theorem sfits_val (n : Int) : sfits (n, ()) = some (decide (sh n), ()) := by
  rw [sfits_eq, sfits_d, wrap_u16, wrap_in (by omega), ieq_dec]
  by_cases h : sh n
  · rw [decide_eq_true h, decide_eq_true (show n = n % 65536 by unfold sh at h; omega)]
  · rw [decide_eq_false h, decide_eq_false (show ¬ n = n % 65536 by unfold sh at h; omega)]
theorem short27_val (n : Int) : short27 (n, ()) = some (decide (sh n), ()) := by
  rw [short27_eq, short27_d, ile_eq, ile_eq]
  unfold sh
  by_cases h : 0 ≤ n
  · rw [decide_eq_true h]
    simp [h]
  · rw [decide_eq_false h]
    simp [h]
theorem shr8 (n : Int) : shr? .i64 n (8 : Int) = some (n / 256) := by
  rw [shr_eq, shrR, if_neg (by omega)]
  congr 1
  show n.fdiv (2 ^ min (8 : Int).toNat 64) = n / 256
  rw [show (2 : Int) ^ min (8 : Int).toNat 64 = 256 from by decide]
  exact Int.fdiv_eq_ediv_of_nonneg n (by omega)
theorem quo256 {n : Int} (h : sh n) : quo? .i64 n (256 : Int) = some (n / 256) := by
  obtain ⟨h1, h2⟩ := h
  rw [quo_eq, quoR, if_neg (by omega), Int.tdiv_eq_ediv_of_nonneg h1, wrap_in (by omega)]
theorem rem256 {n : Int} (h : sh n) : rem? n (256 : Int) = some (n % 256) := by
  rw [rem_eq, remR, if_neg (by omega), Int.tmod_eq_emod_of_nonneg h.1]
theorem two27_val {n : Int} (h : sh n) : two27 (n, ()) = some (tw n, ()) := by
  rw [two27_eq, two27_d]
  simp only [quo256 h, rem256 h, wrap_u8]
  obtain ⟨h1, h2⟩ := h
  rw [show n / 256 % 256 = n / 256 by omega, show n % 256 % 256 = n % 256 by omega]
  rfl
def num (b : List Int) (i : Nat) : Int := b.getD i 0 * 256 + b.getD (i + 1) 0
theorem by8_get {b : List Int} (hb : by8 b) (i : Nat) : 0 ≤ b.getD i 0 ∧ b.getD i 0 ≤ 255 := by
  by_cases h : i < b.length
  · have := hb b[i] (List.getElem_mem h)
    simpa [h] using this
  · simp [List.getElem?_eq_none (Nat.le_of_not_lt h)]
theorem num_sh {b : List Int} (hb : by8 b) (i : Nat) : sh (num b i) := by
  have h1 := by8_get hb i
  have h2 := by8_get hb (i + 1)
  unfold sh num; omega
theorem or_bits {x y : Int} (hx : 0 ≤ x ∧ x ≤ 255) (hy : 0 ≤ y ∧ y ≤ 255) : ((BitVec.ofInt (IntKind.bits .i64) (x * 256) ||| BitVec.ofInt (IntKind.bits .i64) y).toNat : Int) = x * 256 + y := by
  obtain ⟨a, rfl⟩ := Int.eq_ofNat_of_zero_le hx.1
  obtain ⟨c, rfl⟩ := Int.eq_ofNat_of_zero_le hy.1
  show ((BitVec.ofInt 64 ((a : Int) * 256) ||| BitVec.ofInt 64 (c : Int)).toNat : Int) = _
  have e : ((a : Int) * 256) = ((a * 256 : Nat) : Int) := by simp
  rw [e, BitVec.toNat_or, BitVec.ofInt_natCast, BitVec.ofInt_natCast, BitVec.toNat_ofNat, BitVec.toNat_ofNat, Nat.mod_eq_of_lt (by omega), Nat.mod_eq_of_lt (by omega)]
  have := Nat.shiftLeft_add_eq_or_of_lt (b := c) (i := 8) (by omega) a
  rw [Nat.shiftLeft_eq] at this
  rw [show a * 256 = a * 2 ^ 8 from rfl, ← this]
  omega
theorem wnumber_val {b : List Int} (hb : by8 b) (hl : b.length < 4611686018427387904) (i : Nat) (hi : i < 4611686018427387904) : wnumber (b, (i : Int), ()) = some (if i + 2 ≤ b.length then (num b i, true, ()) else (0, false, ())) := by
  rw [wnumber_eq, wnumber_d]
  simp only [dlen_l]
  rw [ilt_eq, decide_eq_false (by omega), wrap_in (by omega), ilt_eq]
  by_cases h : i + 2 ≤ b.length
  · rw [decide_eq_false (by omega), if_pos h]
    have h1 := by8_get hb i
    have h2 := by8_get hb (i + 1)
    simp only [idx_l 0 (show i < b.length by omega)]
    rw [wrap_in (by omega), wrap_in (by omega), show ((i : Int) + 1) = ((i + 1 : Nat) : Int) by simp]
    simp only [idx_l 0 (show i + 1 < b.length by omega)]
    rw [shl_eq, shlR, if_neg (by omega), show (2 : Int) ^ min (8 : Int).toNat (IntKind.bits .i64) = 256 from by decide, wrap_in (by omega), wrap_in (by omega)]
    simp only []
    rw [or_bits h1 h2, wrap_in (by omega)]
    rfl
  · rw [decide_eq_true (by omega), if_neg h]
theorem number25_val {b : List Int} (hb : by8 b) (hl : b.length < 4611686018427387904) (i : Nat) (hi : i < 4611686018427387904) : number25 (b, (i : Int), ()) = some (if i + 2 ≤ b.length then (num b i, true, ()) else (0, false, ())) := by
  rw [number25_eq, number25_d]
  simp only [dlen_l]
  rw [ilt_eq, decide_eq_false (by omega), wrap_in (by omega), ile_eq]
  by_cases h : i + 2 ≤ b.length
  · rw [decide_eq_false (by omega), if_pos h]
    have h1 := by8_get hb i
    have h2 := by8_get hb (i + 1)
    simp only [idx_l 0 (show i < b.length by omega)]
    rw [wrap_in (n := (i : Int) + 1) (by omega), show ((i : Int) + 1) = ((i + 1 : Nat) : Int) by simp]
    simp only [idx_l 0 (show i + 1 < b.length by omega)]
    rw [wrap_in (n := b.getD i 0) (by omega), wrap_in (n := b.getD i 0 * 256) (by omega), wrap_in (n := b.getD (i + 1) 0) (by omega), wrap_in (by omega)]
    rfl
  · rw [decide_eq_true (by omega), if_neg h]
def decN (b : List Int) : List Int := (List.range (num b 3).toNat).map fun k => num b (5 + 2 * k)
def decO (b : List Int) : Int × Int × List Int × Int × Int × Unit :=
  if 5 ≤ b.length ∧ 5 + 2 * num b 3 ≤ b.length then (b.getD 0 0, num b 1, decN b, 5 + 2 * num b 3, 0, ()) else (0, 0, [], b.length, 7, ())
theorem foldl_app {α β : Type} (g : β → α) : ∀ (xs : List β) (a : List α), xs.foldl (fun a x => a ++ [g x]) a = a ++ xs.map g := by
  intro xs
  induction xs with
  | nil => intro a; simp
  | cons x xs ih => intro a; rw [List.foldl_cons, ih]; simp
theorem range_get {N i x : Nat} (h : (List.range N)[i]? = some x) : x = i := by
  rw [List.getElem?_eq_some_iff] at h
  obtain ⟨h1, h2⟩ := h
  simpa using h2.symm
theorem sdecode_loop {b : List Int} (hb : by8 b) (hl : b.length < 4611686018427387904) {N : Nat} (hN : N ≤ 65535) (hle : 5 + 2 * N ≤ b.length) (p q r s : Int) (c : Int) :
    iterL sdecode_s0 many (b, p, q, c, r, s, [], (N : Int), (0 : Int), ()) = some (.inl (p, q, c, r, s, (List.range N).map fun k => num b (5 + 2 * k), ())) := by
  have e := walkL (step := sdecode_s0) (fun i (a : List Int) => (b, p, q, c, r, s, a, (N : Int), (i : Int), ())) (List.range N) (fun k a => .inl (a ++ [num b (5 + 2 * k)])) (fun a => .inl (p, q, c, r, s, a, ())) (fun i a => a.length = i) (by simp; omega)
    (fun i x a hi hx ha => by
      refine ⟨fun m' h' => ?_, fun r h' => by cases h'⟩
      cases h'
      have := range_get hx
      subst this
      rw [List.length_range] at hi
      rw [sdecode_s0, ilt_nat, decide_eq_true hi, wrap_2mul (by omega), show ((5 : Int) + ((2 * x : Nat) : Int)) = ((5 + 2 * x : Nat) : Int) by omega, wrap_in (by omega)]
      simp only [wnumber_val hb hl (5 + 2 * x) (by omega)]
      rw [if_pos (by omega)]
      simp only [dlen_l]
      rw [fits_l (by simp; omega), wrap_add1 (by omega)]
      exact ⟨rfl, by rw [List.length_append, ha]; rfl⟩)
    (fun a _ => by rw [sdecode_s0, List.length_range, ilt_nat, decide_eq_false (by omega)]) [] rfl
  have e' : iterL sdecode_s0 many (b, p, q, c, r, s, [], (N : Int), (0 : Int), ()) = _ := e
  rw [e', walk_fold, foldl_app]
  rfl
theorem decode27_loop {b : List Int} (hb : by8 b) (hl : b.length < 4611686018427387904) {N : Nat} (hN : N ≤ 65535) (hle : 5 + 2 * N ≤ b.length) (p q r s : Int) :
    iterL decode27_s0 many (b, p, q, (N : Int), r, s, [], (0 : Int), ()) = some (.inl (p, q, (N : Int), r, s, (List.range N).map fun k => num b (5 + 2 * k), ())) := by
  have e := walkL (step := decode27_s0) (fun i (a : List Int) => (b, p, q, (N : Int), r, s, a, (i : Int), ())) (List.range N) (fun k a => .inl (a ++ [num b (5 + 2 * k)])) (fun a => .inl (p, q, (N : Int), r, s, a, ())) (fun i a => a.length = i) (by simp; omega)
    (fun i x a hi hx ha => by
      refine ⟨fun m' h' => ?_, fun r h' => by cases h'⟩
      cases h'
      have := range_get hx
      subst this
      rw [List.length_range] at hi
      rw [decode27_s0, ilt_nat, decide_eq_true hi, wrap_2mul (by omega), show ((5 : Int) + ((2 * x : Nat) : Int)) = ((5 + 2 * x : Nat) : Int) by omega, wrap_in (by omega)]
      simp only [number25_val hb hl (5 + 2 * x) (by omega)]
      rw [if_pos (by omega)]
      simp only [dlen_l]
      rw [fits_l (by simp; omega), wrap_add1 (by omega)]
      exact ⟨rfl, by rw [List.length_append, ha]; rfl⟩)
    (fun a _ => by rw [decode27_s0, List.length_range, ilt_nat, decide_eq_false (by omega)]) [] rfl
  have e' : iterL decode27_s0 many (b, p, q, (N : Int), r, s, [], (0 : Int), ()) = _ := e
  rw [e', walk_fold, foldl_app]
  rfl
theorem sdecode_val {b : List Int} (hb : by8 b) (hl : b.length < 4611686018427387904) : sdecode (b, ()) = some (decO b) := by
  rw [sdecode_eq, sdecode_d]
  have w3 := wnumber_val hb hl 3 (by omega)
  have w1 := wnumber_val hb hl 1 (by omega)
  have h3 := num_sh hb 3
  unfold sh at h3
  have w3' : wnumber (b, (3 : Int), ()) = _ := w3
  have w1' : wnumber (b, (1 : Int), ()) = _ := w1
  unfold decO
  simp only [w3', w1', dlen_l]
  by_cases h5 : 5 ≤ b.length
  · rw [if_pos (by omega), if_pos (by omega)]
    simp only [Bool.not_true]
    rw [wrap_in (n := 2 * num b 3) (by omega), wrap_in (by omega), ilt_eq]
    by_cases h : 5 + 2 * num b 3 ≤ b.length
    · rw [decide_eq_false (by omega), if_pos ⟨h5, h⟩]
      have h0 := idx_l (xs := b) (n := 0) 0 (by omega)
      have h0' : idx b (0 : Int) = _ := h0
      have hr := by8_get hb 0
      simp only [h0']
      rw [wrap_in (by omega)]
      obtain ⟨N, hN⟩ := Int.eq_ofNat_of_zero_le h3.1
      have hn : (num b 3).toNat = N := by omega
      unfold decN
      rw [hn, hN, sdecode_loop hb hl (by omega) (by omega)]
      simp only []
      rw [wrap_2mul (by omega), wrap_in (by omega)]
      rfl
    · rw [decide_eq_true (by omega), if_neg (by omega)]
  · rw [if_neg (show ¬ 3 + 2 ≤ b.length by omega), if_neg (show ¬ (5 ≤ b.length ∧ 5 + 2 * num b 3 ≤ b.length) from fun h => h5 h.1)]
    rfl
theorem decode27_val {b : List Int} (hb : by8 b) (hl : b.length < 4611686018427387904) : decode27 (b, ()) = some (decO b) := by
  rw [decode27_eq, decode27_d]
  have w3 := number25_val hb hl 3 (by omega)
  have w1 := number25_val hb hl 1 (by omega)
  have h3 := num_sh hb 3
  unfold sh at h3
  have w3' : number25 (b, (3 : Int), ()) = _ := w3
  have w1' : number25 (b, (1 : Int), ()) = _ := w1
  unfold decO
  simp only [w3', w1', dlen_l]
  by_cases h5 : 5 ≤ b.length
  · rw [if_pos (by omega), if_pos (by omega)]
    simp only [Bool.not_true]
    rw [wrap_in (n := 2 * num b 3) (by omega), wrap_in (by omega), ilt_eq]
    by_cases h : 5 + 2 * num b 3 ≤ b.length
    · rw [decide_eq_false (by omega), if_pos ⟨h5, h⟩]
      have h0 := idx_l (xs := b) (n := 0) 0 (by omega)
      have h0' : idx b (0 : Int) = _ := h0
      have hr := by8_get hb 0
      simp only [h0']
      rw [wrap_in (by omega)]
      obtain ⟨N, hN⟩ := Int.eq_ofNat_of_zero_le h3.1
      have hn : (num b 3).toNat = N := by omega
      unfold decN
      rw [hn, hN, decode27_loop hb hl (by omega) (by omega)]
      simp only []
      rw [wrap_2mul (by omega), wrap_in (by omega)]
      rfl
    · rw [decide_eq_true (by omega), if_neg (by omega)]
  · by_cases h4 : 1 + 2 ≤ b.length
    · rw [if_pos h4, if_neg (by omega), if_neg (by omega)]
      rfl
    · rw [if_neg h4, if_neg (by omega), if_neg (by omega)]
      rfl
end Go.Pev.Pl
end
section
namespace Go.Pev.Pl
set_option linter.unusedSimpArgs false
theorem growI_val (n : Nat) (hn : n < 4294967296) : growI ((n : Int), ()) = some ([], ()) := by
  have e0 : IntKind.wrap .i64 ((n : Int) - IntKind.wrap .i64 ((0 : Int) - 0)) = (n : Int) := by rw [wrap_in (n := (0 : Int) - 0) (by omega), wrap_in (by omega)]; omega
  rw [growI_eq, growI_d]
  simp only [e0, ilt_eq]
  rw [decide_eq_false (by omega)]
  simp only []
  by_cases h : 0 < n
  · rw [decide_eq_true (by omega)]
    have s1 : subl ([] : List Unit) (0 : Int) (0 : Int) = some [] := by rw [subl_eq]; rfl
    have s2 : subl (drep (dnat (n : Int)) (0 : Int)) (0 : Int) (0 : Int) = some [] := by
      rw [subl_eq, sublR, if_pos (by omega)]
      simp
    have s3 : fitsI (n : Int) = true := (fitsI_iff _).2 (by omega)
    simp only [s1, s2, s3]
    rfl
  · rw [decide_eq_false (by omega)]
theorem flatten_take_succ {α : Type} {xss : List (List α)} {i : Nat} {x : List α} (h : xss[i]? = some x) : (xss.take (i + 1)).flatten = (xss.take i).flatten ++ x := by
  rw [List.take_add_one, h]; simp
theorem flatten_take_le {α : Type} (xss : List (List α)) (i : Nat) : (xss.take i).flatten.length ≤ xss.flatten.length := by
  conv => rhs; rw [← List.take_append_drop i xss, List.flatten_append, List.length_append]
  omega
theorem concatI_val (xss : List (List Int)) (hs : xss.length < 4294967296) (h : xss.flatten.length < 4294967296) : concatI (xss, ()) = some (xss.flatten, ()) := by
  rw [concatI_eq, concatI_d]
  have e := walkL (step := concatI_s0) (fun i (a : Nat) => (xss, (a : Int), xss, dlen xss, (i : Int), ())) xss (fun x a => .inl (a + x.length)) (fun a => .inl (xss, (a : Int), ())) (fun i a => a = (xss.take i).flatten.length) (by omega)
    (fun i x a hi hx ha => by
      refine ⟨fun m' h' => ?_, fun r h' => by cases h'⟩
      cases h'
      have h1 := flatten_take_succ hx
      have h2 := flatten_take_le xss (i + 1)
      rw [h1, List.length_append] at h2
      rw [concatI_s0]
      simp only [dlen_l]
      rw [ilt_nat, decide_eq_true hi]
      simp only [idx_some hx]
      rw [wrap_add (by omega), wrap_add1 (by omega), ilt_eq, decide_eq_false (by omega)]
      exact ⟨rfl, by rw [h1, List.length_append, ha]⟩)
    (fun a _ => by rw [concatI_s0, dlen_l, ilt_nat, decide_eq_false (by omega)]) 0 rfl
  have e' : iterL concatI_s0 many (xss, (0 : Int), xss, dlen xss, (0 : Int), ()) = _ := e
  rw [e', walk_fold]
  have hsum : ∀ (l : List (List Int)) (a : Nat), l.foldl (fun a x => a + x.length) a = a + l.flatten.length := by
    intro l
    induction l with
    | nil => intro a; rfl
    | cons x l ih => intro a; rw [List.foldl_cons, ih, List.flatten_cons, List.length_append]; omega
  rw [hsum, Nat.zero_add]
  simp only [growI_val _ h]
  have g := walkL (step := concatI_s1) (fun i (a : List Int) => (a, xss, dlen xss, (i : Int), ())) xss (fun x a => .inl (a ++ x)) (fun a => .inl (a, ())) (fun i a => a = (xss.take i).flatten) (by omega)
    (fun i x a hi hx ha => by
      refine ⟨fun m' h' => ?_, fun r h' => by cases h'⟩
      cases h'
      have h1 := flatten_take_succ hx
      have h2 := flatten_take_le xss (i + 1)
      rw [h1, List.length_append] at h2
      rw [concatI_s1]
      simp only [dlen_l]
      rw [ilt_nat, decide_eq_true hi]
      simp only [idx_some hx]
      rw [wrap_add1 (by omega), fits_l (by rw [ha]; omega)]
      exact ⟨rfl, by rw [h1, ha]⟩)
    (fun a _ => by rw [concatI_s1, dlen_l, ilt_nat, decide_eq_false (by omega)]) [] rfl
  have g' : iterL concatI_s1 many ([], xss, dlen xss, (0 : Int), ()) = _ := g
  rw [g', walk_fold]
  have hcat : ∀ (l : List (List Int)) (a : List Int), l.foldl (fun a x => a ++ x) a = a ++ l.flatten := by
    intro l
    induction l with
    | nil => intro a; simp
    | cons x l ih => intro a; rw [List.foldl_cons, ih, List.flatten_cons, List.append_assoc]
  rw [hcat]
  rfl
theorem ints01_val (xs ys : List Int) (hs : xs.length < 9223372036854775808) : ints01 (xs, ys, ()) = some (decide (xs = ys), ()) := by
  rw [ints01_eq, ints01_d, ieq_dlen]
  by_cases hl : xs.length = ys.length
  · rw [decide_eq_true hl]
    simp only [Bool.not_true]
    rcases scanL (step := ints01_s0) (fun i => (xs, ys, ((i : Nat) : Int), ())) xs.length (fun i => !decide (xs.getD i 0 = ys.getD i 0)) (fun _ => .inl (false, ())) (.inr (.inl ())) hs (fun i hi => by
      rw [ints01_s0, dlen_l, ilt_nat, decide_eq_true hi]
      simp (disch := omega) only [idx_l (0 : Int), wrap_add1, ieq_dec]
      by_cases h : xs.getD i 0 = ys.getD i 0
      · rw [decide_eq_true h]; simp
      · rw [decide_eq_false h]; simp) (by rw [ints01_s0, dlen_l, ilt_nat, decide_eq_false (by omega)]) with ⟨k, hk, hP, _, e⟩ | ⟨h, e⟩
    · have e' : iterL ints01_s0 many (xs, ys, (0 : Int), ()) = _ := e
      rw [e']
      have : xs ≠ ys := ne_of_place (0 : Int) (j := k) (by simpa using hP)
      simp [this]
    · have e' : iterL ints01_s0 many (xs, ys, (0 : Int), ()) = _ := e
      rw [e']
      have : xs = ys := eq_of_places (0 : Int) hl fun j hj => by simpa using h j hj
      simp [this]
  · rw [decide_eq_false hl]
    have : xs ≠ ys := fun e => hl (by rw [e])
    simp [this]
theorem equalI_val (xs ys : List Int) (hs : xs.length < 9223372036854775808) : equalI (xs, ys, ()) = some (decide (xs = ys), ()) := by
  rw [equalI_eq, equalI_d, ieq_dlen]
  by_cases hl : xs.length = ys.length
  · rw [decide_eq_true hl]
    simp only [Bool.not_true]
    rcases scanL (step := equalI_s0) (fun i => (xs, ys, dlen xs, ((i : Nat) : Int), ())) xs.length (fun i => !decide (xs.getD i 0 = ys.getD i 0)) (fun _ => .inl (false, ())) (.inr (.inl ())) hs (fun i hi => by
      rw [equalI_s0, dlen_l, ilt_nat, decide_eq_true hi]
      simp (disch := omega) only [idx_l (0 : Int), wrap_add1, ieq_dec]
      by_cases h : xs.getD i 0 = ys.getD i 0
      · rw [decide_eq_true h]; simp
      · rw [decide_eq_false h]; simp) (by rw [equalI_s0, dlen_l, ilt_nat, decide_eq_false (by omega)]) with ⟨k, hk, hP, _, e⟩ | ⟨h, e⟩
    · have e' : iterL equalI_s0 many (xs, ys, dlen xs, (0 : Int), ()) = _ := e
      rw [e']
      have : xs ≠ ys := ne_of_place (0 : Int) (j := k) (by simpa using hP)
      simp [this]
    · have e' : iterL equalI_s0 many (xs, ys, dlen xs, (0 : Int), ()) = _ := e
      rw [e']
      have : xs = ys := eq_of_places (0 : Int) hl fun j hj => by simpa using h j hj
      simp [this]
  · rw [decide_eq_false hl]
    have : xs ≠ ys := fun e => hl (by rw [e])
    simp [this]
theorem idx_enc_val (xs : List Int) (hs : xs.length < 9223372036854775808) : contFuncI_enc (xs, ()) = some (!decide (∀ x ∈ xs, sh x), ()) := by
  rw [contFuncI_enc_eq, contFuncI_enc_d, idxFuncI_enc_eq, idxFuncI_enc_d]
  have e := findL (step := idxFuncI_enc_s0) (fun i => (xs, dlen xs, (i : Int), ())) xs (fun x => !decide (sh x)) (fun i => .inl ((i : Int), ())) (.inr (.inl ())) hs
    (fun i x hi hx => by
      rw [idxFuncI_enc_s0, dlen_l, ilt_nat, decide_eq_true hi]
      simp only [idx_some hx, sfits_val]
      rw [wrap_add1 (by omega)]
      by_cases h : sh x
      · simp [h]
      · simp [h])
    (by rw [idxFuncI_enc_s0, dlen_l, ilt_nat, decide_eq_false (by omega)])
  have e' : iterL idxFuncI_enc_s0 many (xs, dlen xs, (0 : Int), ()) = _ := e
  rw [e']
  have hany : (xs.any fun x => !decide (sh x)) = !decide (∀ x ∈ xs, sh x) := by
    rw [Bool.eq_iff_iff]
    simp
  rw [hany]
  generalize (!decide (∀ x ∈ xs, sh x)) = b
  cases b <;> simp [ile_eq]
abbrev Res := Int × Int × List Int × Unit
def val (r : Res) : Prop := (0 ≤ r.1 ∧ r.1 ≤ 255) ∧ sh r.2.1 ∧ sh (r.2.2.1.length : Int) ∧ ∀ x ∈ r.2.2.1, sh x
instance (r : Res) : Decidable (val r) := inferInstanceAs (Decidable (_ ∧ _ ∧ _ ∧ _))
def enc (r : Res) : List Int := r.1 :: (tw r.2.1 ++ (tw (r.2.2.1.length : Int) ++ r.2.2.1.flatMap tw))
def encO (r : Res) : List Int × Int × Unit := if val r then (enc r, 0, ()) else ([], 1, ())
theorem foldl_tw : ∀ (xs : List Int) (a : List Int), xs.foldl (fun a x => a ++ tw x) a = a ++ xs.flatMap tw := by
  intro xs
  induction xs with
  | nil => intro a; simp
  | cons x xs ih => intro a; rw [List.foldl_cons, ih]; simp
theorem sencode_loop {xs : List Int} (hs : xs.length < 1000000) (hx : ∀ x ∈ xs, sh x) (e : Int) : iterL sencode_s0 many ([e], xs, (dlen xs), (0 : Int), ()) = some (.inl (e :: xs.flatMap tw, ())) := by
  have g := walkL (step := sencode_s0) (fun i (a : List Int) => (a, xs, dlen xs, (i : Int), ())) xs (fun x a => .inl (a ++ tw x)) (fun a => .inl (a, ())) (fun i a => a.length = 1 + 2 * i) (by omega)
    (fun i x a hi hxi ha => by
      refine ⟨fun m' h' => ?_, fun r h' => by cases h'⟩
      cases h'
      have hsx := hx x (List.mem_of_getElem? hxi)
      unfold sh at hsx
      rw [sencode_s0]
      simp only [dlen_l]
      rw [ilt_nat, decide_eq_true hi]
      simp only [idx_some hxi, dget_some hxi, shr8, wrap_u8]
      rw [show x / 256 % 256 = x / 256 by omega, fits_l (by simp; omega), wrap_add1 (by omega)]
      exact ⟨rfl, by rw [List.length_append, ha]; simp [tw]; omega⟩)
    (fun a _ => by rw [sencode_s0, dlen_l, ilt_nat, decide_eq_false (by omega)]) [e] rfl
  have g' : iterL sencode_s0 many ([e], xs, dlen xs, (0 : Int), ()) = _ := g
  rw [g', walk_fold, foldl_tw]
  rfl
theorem sencode_val (r : Res) (hs : r.2.2.1.length < 65536) : sencode (r, ()) = some (encO r) := by
  obtain ⟨e, c, l, u⟩ := r
  simp only at hs
  rw [sencode_eq, sencode_d]
  simp only [dlen_l]
  rw [concatI_val _ (by simp) (by simp; omega)]
  simp only [wrap_u8, List.flatten_cons, List.flatten_nil, List.append_nil]
  rw [wrap_in (by omega), ieq_dec]
  unfold encO
  by_cases h1 : 0 ≤ e ∧ e ≤ 255
  · rw [decide_eq_true (show e = e % 256 by omega)]
    simp only [Bool.not_true]
    rw [idx_enc_val _ (by simp; omega)]
    simp only []
    by_cases h2 : ∀ x ∈ [c, (l.length : Int)] ++ l, sh x
    · rw [decide_eq_true h2, if_pos (show val (e, c, l, u) from ⟨h1, h2 c (by simp), h2 _ (by simp), fun x hx => h2 x (by simp [hx])⟩)]
      simp only [Bool.not_true]
      have g := sencode_loop (xs := [c, (l.length : Int)] ++ l) (by simp; omega) h2 (e % 256)
      simp only [dlen_l] at g
      rw [g, show e % 256 = e by omega]
      rfl
    · rw [decide_eq_false h2, if_neg (show ¬ val (e, c, l, u) from fun h => h2 fun x hx => by
        simp only [List.cons_append, List.nil_append, List.mem_cons] at hx
        rcases hx with rfl | rfl | hx
        · exact h.2.1
        · exact h.2.2.1
        · exact h.2.2.2 x hx)]
      rfl
  · rw [decide_eq_false (show ¬ e = e % 256 by omega), if_neg (show ¬ val (e, c, l, u) from fun h => h1 h.1)]
    rfl
theorem encode27_loop {xs : List Int} (hs : xs.length < 1000000) (a : List Int) (ha : a.length = 5) (p q : Int) :
    iterL encode27_s0 many (p, q, xs, a, (0 : Int), ()) = some (if ∀ x ∈ xs, sh x then .inr (.inl (a ++ xs.flatMap tw, ())) else .inl (1, ())) := by
  have g := walkL (step := encode27_s0) (fun i (a : List Int) => (p, q, xs, a, (i : Int), ())) xs (fun x a => if sh x then .inl (a ++ tw x) else .inr (.inl (1, ()))) (fun a => .inr (.inl (a, ()))) (fun i a => a.length = 5 + 2 * i) (by omega)
    (fun i x a hi hxi ha => by
      have step : encode27_s0 (p, q, xs, a, (i : Int), ()) = if sh x then some (.inl (p, q, xs, a ++ tw x, ((i + 1 : Nat) : Int), ())) else some (.inr (.inl (1, ()))) := by
        rw [encode27_s0]
        simp only [dlen_l]
        rw [ilt_nat, decide_eq_true hi]
        simp only [idx_some hxi, short27_val]
        by_cases h : sh x
        · rw [decide_eq_true h, if_pos h]
          simp only [Bool.not_true, two27_val h]
          rw [fits_l (by simp [tw]; omega), wrap_add1 (by omega)]
          rfl
        · rw [decide_eq_false h, if_neg h]
          rfl
      by_cases h : sh x
      · rw [if_pos h] at step ⊢
        refine ⟨fun m' h' => ?_, fun r h' => by cases h'⟩
        cases h'
        exact ⟨step, by rw [List.length_append, ha]; simp [tw]; omega⟩
      · rw [if_neg h] at step ⊢
        refine ⟨fun m' h' => (by cases h'), fun r h' => ?_⟩
        cases h'
        exact step)
    (fun a _ => by rw [encode27_s0, dlen_l, ilt_nat, decide_eq_false (by omega)]) a (by omega)
  have g' : iterL encode27_s0 many (p, q, xs, a, (0 : Int), ()) = _ := g
  rw [g']
  congr 1
  clear g g' hs ha
  induction xs generalizing a with
  | nil => simp [walk]
  | cons x xs ih =>
    rw [walk]
    by_cases h : sh x
    · rw [if_pos h]
      simp only []
      rw [ih]
      simp [h]
    · rw [if_neg h]
      simp [h]
theorem encode27_val (r : Res) (hs : r.2.2.1.length < 65536) : encode27 (r, ()) = some (encO r) := by
  obtain ⟨e, c, l, u⟩ := r
  simp only at hs
  rw [encode27_eq, encode27_d]
  simp only [dlen_l, short27_val]
  rw [ilt_eq, ilt_eq]
  unfold encO
  by_cases h1 : 0 ≤ e ∧ e ≤ 255
  · rw [decide_eq_false (show ¬ e < 0 by omega), decide_eq_false (show ¬ 255 < e by omega)]
    simp only []
    by_cases h2 : sh c
    · rw [decide_eq_true h2]
      simp only [Bool.not_true]
      have h3 : sh (l.length : Int) := by unfold sh; omega
      rw [decide_eq_true h3]
      simp only [Bool.not_true, two27_val h2, two27_val h3]
      rw [fits_l (by simp [tw]), fits_l (by simp [tw, dapp])]
      simp only [wrap_u8]
      rw [encode27_loop (by omega) _ (by simp [tw, dapp])]
      by_cases h4 : ∀ x ∈ l, sh x
      · rw [if_pos h4, if_pos (show val (e, c, l, u) from ⟨h1, h2, h3, h4⟩), show e % 256 = e by omega]
        simp [enc, dapp]
      · rw [if_neg h4, if_neg (show ¬ val (e, c, l, u) from fun h => h4 h.2.2.2)]
    · rw [decide_eq_false h2, if_neg (show ¬ val (e, c, l, u) from fun h => h2 h.2.1)]
      rfl
  · rw [if_neg (show ¬ val (e, c, l, u) from fun h => h1 h.1)]
    by_cases h0 : e < 0
    · rw [decide_eq_true h0]
    · rw [decide_eq_false h0, decide_eq_true (by omega)]
theorem same27_val (a b : Res) (hs : a.2.2.1.length < 9223372036854775808) : same27 (a, b, ()) = some (decide (a = b), ()) := by
  obtain ⟨a1, a2, a3, _⟩ := a
  obtain ⟨b1, b2, b3, _⟩ := b
  rw [same27_eq, same27_d, ieq_dec, ieq_dec]
  simp only at hs ⊢
  by_cases h1 : a1 = b1
  · rw [decide_eq_true h1]
    by_cases h2 : a2 = b2
    · rw [decide_eq_true h2]
      simp only [ints01_val a3 b3 hs]
      simp [h1, h2]
    · rw [decide_eq_false h2]
      simp [h2]
  · rw [decide_eq_false h1]
    simp [h1]
theorem ssame_val (a b : Res) (hs : a.2.2.1.length < 9223372036854775808) : ssame (a, b, ()) = some (decide (a = b), ()) := by
  obtain ⟨a1, a2, a3, _⟩ := a
  obtain ⟨b1, b2, b3, _⟩ := b
  rw [ssame_eq, ssame_d, ieq_dec, ieq_dec]
  simp only at hs ⊢
  by_cases h1 : a1 = b1
  · rw [decide_eq_true h1]
    by_cases h2 : a2 = b2
    · rw [decide_eq_true h2]
      simp only [equalI_val a3 b3 hs]
      simp [h1, h2]
    · rw [decide_eq_false h2]
      simp [h2]
  · rw [decide_eq_false h1]
    simp [h1]
theorem num_tw (x : Int) (r : List Int) : num (tw x ++ r) 0 = x := by
  simp [num, tw]; omega
theorem nums_tw : ∀ (xs : List Int) (r : List Int), (List.range xs.length).map (fun k => num (xs.flatMap tw ++ r) (2 * k)) = xs := by
  intro xs
  induction xs with
  | nil => intro r; rfl
  | cons x xs ih =>
    intro r
    rw [List.length_cons, List.range_succ_eq_map, List.map_cons, List.map_map]
    congr 1
    · rw [List.flatMap_cons, List.append_assoc]; exact num_tw x _
    · conv => rhs; rw [← ih r]
      refine List.map_congr_left fun k _ => ?_
      simp [num, tw, List.flatMap_cons, show 2 * (k + 1) = 2 * k + 1 + 1 by omega, show 2 * k + 1 + 1 + 1 = 2 * k + 1 + 1 + 1 from rfl]
theorem enc_len (r : Res) : (enc r).length = 5 + 2 * r.2.2.1.length := by
  have : ∀ xs : List Int, (xs.flatMap tw).length = 2 * xs.length := by
    intro xs
    induction xs with
    | nil => rfl
    | cons x xs ih => rw [List.flatMap_cons, List.length_append, ih, List.length_cons]; simp [tw]; omega
  simp [enc, tw, this]; omega
theorem dec_enc {r : Res} (h : val r) (b : List Int) : decO (enc r ++ b) = (r.1, r.2.1, r.2.2.1, ((enc r).length : Int), 0, ()) := by
  have hl := enc_len r
  obtain ⟨e, c, l, u⟩ := r
  obtain ⟨h1, h2, h3, h4⟩ := h
  have e3 : num (enc (e, c, l, u) ++ b) 3 = (l.length : Int) := by
    simp [num, enc, tw]; omega
  have e1 : num (enc (e, c, l, u) ++ b) 1 = c := by
    simp [num, enc, tw]; omega
  have en : decN (enc (e, c, l, u) ++ b) = l := by
    unfold decN
    rw [e3, Int.toNat_natCast]
    conv => rhs; rw [← nums_tw l b]
    refine List.map_congr_left fun k _ => ?_
    simp [num, enc, tw, show 5 + 2 * k = 2 * k + 1 + 1 + 1 + 1 + 1 by omega]
  simp only at hl
  unfold decO
  rw [e3, e1, en, if_pos ⟨by rw [List.length_append, hl]; omega, by rw [List.length_append, hl]; omega⟩, hl]
  simp [enc]
theorem tw_nums : ∀ (n : Nat) (b : List Int), by8 b → 2 * n ≤ b.length → ((List.range n).map fun k => num b (2 * k)).flatMap tw = b.take (2 * n) := by
  intro n
  induction n with
  | zero => intro b _ _; rfl
  | succ n ih =>
    intro b hb hl
    match b, hl with
    | x :: y :: b, hl =>
      have hx := hb x (by simp)
      have hy := hb y (by simp)
      rw [List.range_succ_eq_map, List.map_cons, List.map_map, List.flatMap_cons, show 2 * (n + 1) = 2 * n + 1 + 1 by omega, List.take_succ_cons, List.take_succ_cons, ← ih b (fun z hz => hb z (by simp [hz])) (by simp at hl; omega)]
      have : tw (num (x :: y :: b) (2 * 0)) = [x, y] := by simp [num, tw]; omega
      rw [this]
      congr 3
theorem enc_dec {b : List Int} (hb : by8 b) (h5 : 5 ≤ b.length) (h : 5 + 2 * num b 3 ≤ b.length) : val (b.getD 0 0, num b 1, decN b, ()) ∧ enc (b.getD 0 0, num b 1, decN b, ()) = b.take (5 + 2 * num b 3).toNat := by
  have h3 := num_sh hb 3
  have hn : (decN b).length = (num b 3).toNat := by simp [decN]
  refine ⟨⟨by8_get hb 0, num_sh hb 1, ?_, fun x hx => ?_⟩, ?_⟩
  · show sh (((decN b).length : Nat) : Int)
    rw [hn]; unfold sh at *; omega
  · simp only [decN, List.mem_map] at hx
    obtain ⟨k, _, rfl⟩ := hx
    exact num_sh hb _
  · unfold sh at h3
    match b, h5 with
    | x0 :: x1 :: x2 :: x3 :: x4 :: b, h5 =>
      have y0 := hb x0 (by simp)
      have y1 := hb x1 (by simp)
      have y2 := hb x2 (by simp)
      have y3 := hb x3 (by simp)
      have y4 := hb x4 (by simp)
      obtain ⟨N, hN⟩ := Int.eq_ofNat_of_zero_le h3.1
      have hd : (decN (x0 :: x1 :: x2 :: x3 :: x4 :: b)) = (List.range N).map fun k => num b (2 * k) := by
        unfold decN
        rw [hN, Int.toNat_natCast]
        refine List.map_congr_left fun k _ => ?_
        simp [num, show 5 + 2 * k = 2 * k + 1 + 1 + 1 + 1 + 1 by omega]
      have ht := tw_nums N b (fun z hz => hb z (by simp [hz])) (by simp at h; omega)
      have e3 : (N : Int) = x3 * 256 + x4 := by rw [← hN]; rfl
      simp only [enc, hd, ht, List.length_map, List.length_range]
      rw [hN, show (5 + 2 * ((N : Nat) : Int)).toNat = 2 * N + 1 + 1 + 1 + 1 + 1 by omega]
      simp only [List.take_succ_cons]
      have e1 : tw (num (x0 :: x1 :: x2 :: x3 :: x4 :: b) 1) = [x1, x2] := by simp [num, tw]; omega
      have e2 : tw ((N : Nat) : Int) = [x3, x4] := by rw [e3]; simp [tw]; omega
      rw [e1, e2]
      rfl
end Go.Pev.Pl
end
section
namespace Go.Pev.Pl
set_option linter.unusedSimpArgs false
set_option maxRecDepth 100000
theorem alive27_true : alive27 () = some (true, ()) := by
  rw [show alive27 () = @alive27 idI () from congrArg (fun i => @alive27 i ()) lockI_eq]
  kernel_rfl
theorem by8_enc {r : Res} (h : val r) : by8 (enc r) := by
  obtain ⟨e, c, l, u⟩ := r
  obtain ⟨h1, h2, h3, h4⟩ := h
  have ht : ∀ n : Int, sh n → by8 (tw n) := by
    intro n hn x hx
    unfold sh at hn
    simp only [tw, List.mem_cons, List.not_mem_nil, or_false] at hx
    rcases hx with rfl | rfl <;> omega
  intro x hx
  simp only [enc, List.mem_cons, List.mem_append, List.mem_flatMap] at hx
  rcases hx with rfl | hx | hx | ⟨y, hy, hx⟩
  · exact h1
  · exact ht _ h2 x hx
  · exact ht _ h3 x hx
  · exact ht _ (h4 y hy) x hx
theorem seq_self (x : List Int) : seq? x x = true := by rw [seq_eq]; simp [seqR]
theorem ieq_self' (a : Int) : ieq a a = true := by rw [ieq_eq]; simp
theorem sayBytes_true (r s : Res) (b : List Int) (h0 : wfD (.prod (.int .i64) (.prod (.int .i64) (.prod (.slice (.int .i64)) .unit))) r) (h1 : wfD (.prod (.int .i64) (.prod (.int .i64) (.prod (.slice (.int .i64)) .unit))) s) (h2 : wfD (.slice (.int .u8)) b) :
    sayBytes (r, s, b, ()) = some (true, ()) := by
  have hb : by8 b := h2.2
  obtain ⟨e, c, l, ⟨⟩⟩ := r
  obtain ⟨e', c', l', ⟨⟩⟩ := s
  rw [sayBytes_eq, sayBytes_d]
  simp only [alive27_true, Bool.not_true, dlen_l]
  by_cases g1 : 200 < l.length
  · rw [ilt_eq, decide_eq_true (by omega)]
  rw [ilt_eq, decide_eq_false (by omega)]
  by_cases g2 : 200 < l'.length
  · rw [ilt_eq, decide_eq_true (by omega)]
  rw [ilt_eq, decide_eq_false (by omega)]
  by_cases g3 : 1000 < b.length
  · rw [ilt_eq, decide_eq_true (by omega)]
  rw [ilt_eq, decide_eq_false (by omega)]
  have E1 := sencode_val (e, c, l, ()) (by simp only; omega)
  have E2 := encode27_val (e, c, l, ()) (by simp only; omega)
  have D1 := sdecode_val hb (by omega)
  have D2 := decode27_val hb (by omega)
  simp only [E1, E2, D1, D2]
  have S1 := ssame_val (e, c, l, ()) (e', c', l', ()) (by simp only; omega)
  have S2 := same27_val (e, c, l, ()) (e', c', l', ()) (by simp only; omega)
  -- what b holds
  have tail : ∃ d1 d2 d3 d4 d5, decO b = (d1, d2, d3, d4, d5, ()) ∧ d3.length < 65536 ∧ ((d5 = 7 ∧ d4 = (b.length : Int)) ∨ (d5 = 0 ∧ val (d1, d2, d3, ()) ∧ ∃ n : Nat, d4 = (n : Int) ∧ n ≤ b.length ∧ enc (d1, d2, d3, ()) = b.take n)) := by
    unfold decO
    by_cases h : 5 ≤ b.length ∧ 5 + 2 * num b 3 ≤ b.length
    · rw [if_pos h]
      obtain ⟨q1, q2⟩ := enc_dec hb h.1 h.2
      have h3 := num_sh hb 3
      unfold sh at h3
      exact ⟨_, _, _, _, _, rfl, by simp only [decN, List.length_map, List.length_range]; omega, .inr ⟨rfl, q1, (5 + 2 * num b 3).toNat, by omega, by omega, q2⟩⟩
    · rw [if_neg h]
      exact ⟨_, _, _, _, _, rfl, by simp, .inl ⟨rfl, rfl⟩⟩
  obtain ⟨d1, d2, d3, d4, d5, hD, hl3, htail⟩ := tail
  have S3 := same27_val (d1, d2, d3, ()) (d1, d2, d3, ()) (by simp only; omega)
  simp only [hD, S3, decide_true, Bool.not_true, ieq_self', S1, S2, BEq.rfl, seq_self]
  have fin : (match (!(ieq d5 (0 : Int))) with
      | true => some ((ieq d4 (b.length : Int)), ())
      | false => match sencode ((d1, (d2, (d3, ()))), ()) with
        | none => none
        | some (y24, y25, _) => match (ieq y25 (0 : Int)) with
          | true => match (ile d4 (b.length : Int)) with
            | true => match subl b (0 : Int) d4 with
              | none => none
              | some x26 => some ((seq? (dbytes y24) (dbytes x26)), ())
            | false => some (false, ())
          | false => some (false, ())) = some (true, ()) := by
    rcases htail with ⟨rfl, rfl⟩ | ⟨rfl, hv, n, rfl, hn, he⟩
    · rw [ieq_dec, decide_eq_false (by omega)]
      simp only [Bool.not_false, ieq_self']
    · have E3 := sencode_val (d1, d2, d3, ()) hl3
      rw [ieq_self']
      simp only [Bool.not_true, E3]
      unfold encO
      rw [if_pos hv]
      simp only [ieq_self', ile_nat, decide_eq_true hn, subl_0 hn, he, seq_self]
  by_cases hv : val (e, c, l, ())
  · have hE : encO (e, c, l, ()) = (enc (e, c, l, ()), 0, ()) := by unfold encO; rw [if_pos hv]
    have hlen := enc_len (e, c, l, ())
    simp only at hlen
    have D3 := sdecode_val (b := enc (e, c, l, ()) ++ b) (fun x hx => by
      rcases List.mem_append.1 hx with hx | hx
      · exact by8_enc hv x hx
      · exact hb x hx) (by rw [List.length_append, hlen]; omega)
    rw [dec_enc hv b] at D3
    have S4 := same27_val (e, c, l, ()) (e, c, l, ()) (by simp only; omega)
    simp only [hE, ieq_self', dapp_l, List.nil_append, D3, S4, decide_true, Bool.not_true]
    rw [fits_l (by simp [hlen]; omega), fits_l (by rw [hlen]; omega)]
    exact fin
  · have hE : encO (e, c, l, ()) = ([], 1, ()) := by unfold encO; rw [if_neg hv]
    simp only [hE]
    rw [show ieq (1 : Int) (0 : Int) = false from by rw [ieq_dec]; rfl]
    exact fin
end Go.Pev.Pl
end
