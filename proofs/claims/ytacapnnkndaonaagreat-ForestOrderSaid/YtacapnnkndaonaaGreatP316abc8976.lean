/- A part of the proofs of this seat: PevClaim Q19z Q19o SLa SLb SLc SLd SBG19M SLe SLf Q19k Q19m T19a Q19w Q19v SEa SEb SEc SEd SEe SEf Q19u Q19q Q19s G19P1 G19P2 G19P3. -/
import Derived.Test.YtacapnnkndaonaaGreatP0a96ef54dc
import Derived.ProofKit
import Derived.ChangeArms
import Derived.ReadAgain
import Derived.Deep.Slices
import Derived.OpenShut
import Derived.KernelRfl
import Derived.Test.YtacapnnkndaonaaGreatProg
set_option linter.unusedVariables false
set_option linter.unusedSimpArgs false
set_option linter.unusedSectionVars false
section
/- From a function's spec to the statement of a law: what is read as data is data of the evaluator. -/
namespace Go.Pev
open Go.RowKit Go.ChangeShapes Go.WideShapes Go.ChangeAt

def readFs (P : Program) (rd : TypeId → Option Ty) : List Field → Nat → Option Ty
  | [], _ => some .unit
  | f :: r, off => match rd f.type, readFs P rd r (off + P.cellsOf f.type) with
    | some a, some b => match Nat.beq f.offset off && Nat.beq (P.cellsOf f.type) a.size with
      | true => some (.prod a b)
      | false => none
    | _, _ => none

/-- a type of the program that is read as the evaluator's data; that the table's sizes fit -/
def readTy (P : Program) : Nat → TypeId → Option Ty
  | 0, _ => none
  | n + 1, t => match P.underlying t with
    | some .bool => some .bool
    | some (.int k) => some (.int k)
    | some (.slice e) => match readTy P n e with
      | some a => match Nat.beq (P.cellsOf e) a.size && !(Nat.beq a.size 0) with
        | true => some (.slice a)
        | false => none
      | none => none
    | some (.array c e) => match readTy P n e with
      | some a => match Nat.beq (P.cellsOf e) a.size && Nat.beq (P.cellsOf t) (c * a.size) with
        | true => some (.arr c a)
        | false => none
      | none => none
    | some (.struct fs) => match readFs P (readTy P n) fs.toList 0 with
      | some a => match Nat.beq (P.cellsOf t) a.size with
        | true => some a
        | false => none
      | none => none
    | _ => none

/-- numbers are of their kinds -/
def wfD : (t : Ty) → t.den → Prop
  | .unit, _ => True
  | .bool, _ => True
  | .int k, n => k.min ≤ n ∧ n ≤ k.max
  | .slice e, xs => List.length (α := e.den) xs ≤ maxLen ∧ ∀ x ∈ (xs : List e.den), wfD e x
  | .prod a b, d => wfD a d.1 ∧ wfD b d.2
  | .arr n e, xs => List.length (α := e.den) xs = n ∧ ∀ x ∈ (xs : List e.den), wfD e x

section
variable {H : Type} {enc : TypeId × Value → H} {P : Program} {w : World} {spare : Nat → Bool} {held : Bool}

abbrev below (w : World) : Nat → Prop := fun b => b < w.heap.size

theorem wf_int {k : IntKind} {n : Int} (h : (Lit.int k n).wf = true) : k.min ≤ n ∧ n ≤ k.max := by
  simpa [Lit.wf] using h

theorem rows_of {α : Type} {R : α → List Value → Prop} {k : Nat} : ∀ (m : Nat) (f : Nat → List Value), (∀ i, i < m → (f i).length = k ∧ ∃ x, R x (f i)) → ∃ xs : List α, xs.length = m ∧ rows R xs ((List.range m).flatMap f) ∧ ∀ x ∈ xs, ∃ i, i < m ∧ R x (f i) := by
  intro m
  induction m with
  | zero => intro f _; exact ⟨[], rfl, rfl, fun x hx => by cases hx⟩
  | succ m ih =>
    intro f h
    obtain ⟨xs, h1, h2, h3⟩ := ih f fun i hi => h i (by omega)
    obtain ⟨_, x, hx⟩ := h m (by omega)
    refine ⟨xs ++ [x], by simp [h1], ?_, fun y hy => ?_⟩
    · rw [List.range_succ, List.flatMap_append]
      exact rows_app h2 (by simp; exact ⟨f m, [], by simp, hx, rfl⟩)
    · rcases List.mem_append.1 hy with hy | hy
      · obtain ⟨i, hi, hr⟩ := h3 y hy; exact ⟨i, by omega, hr⟩
      · simp only [List.mem_singleton] at hy; subst hy; exact ⟨m, by omega, hx⟩

theorem flat_get {f : Nat → List Value} {k : Nat} : ∀ (m : Nat), (∀ i, i < m → (f i).length = k) → ∀ (j : Nat) (u : Value), ((List.range m).flatMap f)[j]? = some u → ∃ i r, i < m ∧ r < k ∧ j = i * k + r ∧ (f i)[r]? = some u := by
  intro m
  induction m with
  | zero => intro _ j u h; simp at h
  | succ m ih =>
    intro hl j u h
    rw [List.range_succ, List.flatMap_append] at h
    have hlen : ∀ m', m' ≤ m → ((List.range m').flatMap f).length = m' * k := by
      intro m' hm'
      induction m' with
      | zero => simp
      | succ m' ih' =>
        rw [List.range_succ, List.flatMap_append, List.length_append, ih' (by omega)]
        simp [hl m' (by omega), Nat.add_mul]
    rcases Nat.lt_or_ge j (m * k) with hj | hj
    · rw [List.getElem?_append_left (by rw [hlen m (Nat.le_refl _)]; exact hj)] at h
      obtain ⟨i, r, h1, h2, h3, h4⟩ := ih (fun i hi => hl i (by omega)) j u h
      exact ⟨i, r, by omega, h2, h3, h4⟩
    · rw [List.getElem?_append_right (by rw [hlen m (Nat.le_refl _)]; exact hj), hlen m (Nat.le_refl _)] at h
      simp only [List.flatMap_cons, List.flatMap_nil, List.append_nil] at h
      have hr : j - m * k < k := by
        have := lt_of_get' h
        rwa [hl m (by omega)] at this
      exact ⟨m, j - m * k, by omega, hr, by omega, h⟩

theorem addr_add (a : Addr) (i j : Nat) : (a.add i).add j = a.add (i + j) := by
  unfold Addr.add
  by_cases hi : i = 0
  · subst hi; simp
  · by_cases hj : j = 0
    · subst hj; simp
    · have : ¬ (i + j = 0) := by omega
      simp [hi, hj, Nat.add_assoc]

theorem choose_lt' {α : Type} [Inhabited α] {n : Nat} {p : Nat → α → Prop} (h : ∀ i, i < n → ∃ x, p i x) : ∃ f : Nat → α, ∀ i, i < n → p i (f i) := by
  classical
  refine ⟨fun i => if hi : i < n then Classical.choose (h i hi) else default, fun i hi => ?_⟩
  simp only [dif_pos hi]
  exact Classical.choose_spec (h i hi)

theorem readFs_dat {rd : TypeId → Option Ty} {cs : List Value} (hrd : ∀ (f : Field) (a : Ty), rd f.type = some a → (P.cellsOf f.type = a.size) → (∃ y : Nat × (DataW H × List MemPlace), DataW.trod enc P w 0 spare held y.1 f.type ((cs.drop f.offset).take (P.cellsOf f.type)) = some y.2) → ∃ d : a.den, Dat w (below w) a d ((cs.drop f.offset).take (P.cellsOf f.type)) ∧ wfD a d) :
    ∀ (fs : List Field) (off : Nat) (t : Ty), readFs P rd fs off = some t → off + t.size = cs.length → (∀ f ∈ fs, ∃ y : Nat × (DataW H × List MemPlace), DataW.trod enc P w 0 spare held y.1 f.type ((cs.drop f.offset).take (P.cellsOf f.type)) = some y.2) →
      ∃ d : t.den, Dat w (below w) t d (cs.drop off) ∧ wfD t d := by
  intro fs
  induction fs with
  | nil =>
    intro off t h hl _
    simp only [readFs, Option.some.injEq] at h
    subst h
    refine ⟨(), ?_, trivial⟩
    show cs.drop off = []
    simp [Ty.size] at hl
    exact List.drop_eq_nil_of_le (by omega)
  | cons f r ih =>
    intro off t h hl hf
    simp only [readFs] at h
    split at h
    · rename_i a b ha hb
      split at h
      · rename_i hc
        simp only [Option.some.injEq] at h
        subst h
        simp only [Bool.and_eq_true] at hc
        have h1 := Nat.eq_of_beq_eq_true hc.1
        have h2 := Nat.eq_of_beq_eq_true hc.2
        obtain ⟨d, hd, hw⟩ := hrd f a ha h2 (hf f (by simp))
        simp only [Ty.size] at hl
        obtain ⟨e, he, hw'⟩ := ih (off + P.cellsOf f.type) b hb (by omega) fun g hg => hf g (by simp [hg])
        refine ⟨(d, e), ⟨(cs.drop off).take (P.cellsOf f.type), cs.drop (off + P.cellsOf f.type), ?_, ?_, he⟩, hw, hw'⟩
        · rw [← List.drop_drop, List.take_append_drop]
        · rw [h1] at hd; exact hd
      · cases h
    · cases h

theorem trod_dat : ∀ (n : Nat) (t : TypeId) (ty : Ty) (fuel : Nat) (cs : List Value) (x : DataW H × List MemPlace), readTy P n t = some ty → DataW.trod enc P w 0 spare held fuel t cs = some x → ∃ d : ty.den, Dat w (below w) ty d cs ∧ wfD ty d := by
  intro n
  induction n with
  | zero => intro t ty fuel cs x h; cases h
  | succ n ih =>
    intro t ty fuel cs x h hx
    simp only [readTy] at h
    split at h
    · rename_i hu
      simp only [Option.some.injEq] at h; subst h
      obtain ⟨b, rfl, _⟩ := DataW.trod_bool hu hx
      exact ⟨b, rfl, trivial⟩
    · rename_i k hu
      simp only [Option.some.injEq] at h; subst h
      obtain ⟨m, rfl, _, hw⟩ := DataW.trod_int hu hx
      exact ⟨m, rfl, wf_int hw⟩
    · rename_i e hu
      split at h
      · rename_i a ha
        split at h
        · rename_i hc
          simp only [Option.some.injEq] at h; subst h
          rw [Bool.and_eq_true] at hc
          have hpos : a.size ≠ 0 := fun h0 => by rw [h0] at hc; simp at hc
          have hc := Nat.eq_of_beq_eq_true hc.1
          rcases DataW.trod_slice hu hx with ⟨rfl, _⟩ | ⟨ad, len, cap, elems, rest, m, rfl, rfl, _, _, hle, hmax, hlen, hel, _⟩
          · exact ⟨[], ⟨none, 0, rfl, Nat.le_refl _, fun hne => absurd rfl hne⟩, Nat.zero_le _, fun x hx => by cases hx⟩
          · -- each element
            have each : ∀ i, i < len → ∃ cs', w.cells? 0 (ad.add (i * P.cellsOf e)) (P.cellsOf e) = some cs' ∧ ∃ d : a.den, Dat w (below w) a d cs' ∧ wfD a d := by
              intro i hi
              have h1 := hel i hi
              rw [List.getElem?_eq_getElem (by omega), Option.bind_eq_some_iff] at h1
              obtain ⟨cs', h2, h3⟩ := h1
              exact ⟨cs', h2, ih e a m cs' _ ha h3⟩
            obtain ⟨f, hf⟩ := choose_lt' (α := List Value) (p := fun i cs' => w.cells? 0 (ad.add (i * P.cellsOf e)) (P.cellsOf e) = some cs' ∧ ∃ d : a.den, Dat w (below w) a d cs' ∧ wfD a d) each
            have hfl : ∀ i, i < len → (f i).length = a.size := by
              intro i hi
              obtain ⟨_, hl, _⟩ := World.cells?_some (hf i hi).1
              rw [hl, hc]
            obtain ⟨xs, h1, h2, h3⟩ := rows_of (R := fun (d : a.den) cs => Dat w (below w) a d cs ∧ wfD a d) (k := a.size) len f fun i hi => ⟨hfl i hi, (hf i hi).2⟩
            refine ⟨xs, ⟨some ad, cap, by rw [h1], by rw [h1]; exact hle, fun hne => ⟨ad, (List.range len).flatMap f, rfl, ?_, rows_mono (fun x _ cs hx => hx.1) h2, fun j u hu => ?_⟩⟩, by rw [h1]; exact Nat.le_trans hle hmax, fun x hx => ?_⟩
            · -- the block is there
              have hl0 : 0 < len := by
                rcases Nat.eq_zero_or_pos len with h0 | h0
                · exact absurd (List.eq_nil_of_length_eq_zero (by rw [h1, h0])) hne
                · exact h0
              have hb := World.cells?_block (hf 0 hl0).1 (by omega)
              rw [Nat.zero_mul] at hb
              have e0 : ad.add 0 = ad := by simp [Addr.add]
              rw [e0] at hb
              exact hb
            · obtain ⟨i, r, hi, hr, rfl, hur⟩ := flat_get len hfl j u hu
              obtain ⟨_, _, hcell⟩ := World.cells?_some (hf i hi).1
              have := hcell r (by rw [hc]; exact hr)
              rw [hur] at this
              rw [← this, hc, addr_add]
            · obtain ⟨i, _, hr⟩ := h3 x hx
              exact hr.2
        · cases h
      · cases h
    · rename_i c e hu
      split at h
      · rename_i a ha
        split at h
        · rename_i hc
          simp only [Option.some.injEq] at h; subst h
          rw [Bool.and_eq_true] at hc
          have hc1 := Nat.eq_of_beq_eq_true hc.1
          have hc2 := Nat.eq_of_beq_eq_true hc.2
          obtain ⟨xs, m, rfl, _, hl, hxs, hfs⟩ := DataW.trod_array hu hx
          rw [hc2] at hl
          obtain ⟨ys, h1, h2, h3⟩ := rows_of (R := fun (d : a.den) cs => Dat w (below w) a d cs ∧ wfD a d) (k := a.size) c (fun i => (cs.drop (i * a.size)).take a.size) fun i hi => by
            have hi1 : i * a.size + a.size ≤ c * a.size := by
              have := Nat.mul_le_mul_right a.size (show i + 1 ≤ c from hi)
              rwa [Nat.add_mul, Nat.one_mul] at this
            have h1 := hfs i hi
            rw [List.getElem?_eq_getElem (by omega), hc1] at h1
            exact ⟨by rw [List.length_take, List.length_drop, hl]; omega, ih e a m _ _ ha h1⟩
          have hjoin : ∀ k, k ≤ c → (List.range k).flatMap (fun i => (cs.drop (i * a.size)).take a.size) = cs.take (k * a.size) := by
            intro k
            induction k with
            | zero => intro _; simp
            | succ k ihk =>
              intro hk
              rw [List.range_succ, List.flatMap_append, ihk (by omega), Nat.add_mul, Nat.one_mul, List.take_add]
              simp
          rw [hjoin c (Nat.le_refl _), ← hl, List.take_length] at h2
          exact ⟨ys, ⟨h1, rows_mono (fun x _ cs hx => hx.1) h2⟩, h1, fun x hx => by obtain ⟨i, _, hr⟩ := h3 x hx; exact hr.2⟩
        · cases h
      · cases h
    · rename_i fs hu
      split at h
      · rename_i a ha
        split at h
        · rename_i hc
          simp only [Option.some.injEq] at h; subst h
          have hc := Nat.eq_of_beq_eq_true hc
          obtain ⟨xs, m, rfl, _, hl, hxs, hfs⟩ := DataW.trod_struct hu hx
          obtain ⟨d, hd, hw⟩ := readFs_dat (enc := enc) (w := w) (spare := spare) (held := held) (cs := cs) (fun f b hb _ ⟨y, hy⟩ => ih f.type b y.1 _ y.2 hb hy) fs.toList 0 _ ha (by rw [hl, hc]; omega) (fun f hf => by
            obtain ⟨i, hi⟩ := List.getElem?_of_mem hf
            have h1 := hfs i f (by simpa using hi)
            have hlt : i < xs.length := by rw [hxs]; simpa using lt_of_get' hi
            rw [List.getElem?_eq_getElem hlt] at h1
            exact ⟨(m, xs[i]), h1⟩)
          rw [List.drop_zero] at hd
          exact ⟨d, hd, hw⟩
        · cases h
      · cases h
    · cases h

/-- a value that is read as data -/
theorem okWide_one {r : Reach} {b0 : Nat} {t : TypeId} {v : Value} (hval : Value.okWide P w r b0 t v) (hn : ∀ d, P.underlying t = some d → (match d with | .bool | .int _ | .slice _ => true | _ => false) = true) {ty : Ty} {n : Nat} (h : readTy P (n + 1) t = some ty) : v.cells.toList = [v] := by
  simp only [Value.okWide] at hval
  have hu : ∃ d, P.underlying t = some d := by
    cases hu : P.underlying t with
    | none => simp only [readTy, hu] at h; cases h
    | some d => exact ⟨d, rfl⟩
  obtain ⟨d, hu⟩ := hu
  have := hn d hu
  rw [hu] at hval
  cases d <;> simp only [Bool.false_eq_true] at this <;> simp only [Cell.okWide, hu] at hval <;> cases v <;> first | rfl | (simp_all [Cell.ok])

theorem trod_rep {r : Reach} {b0 : Nat} {t : TypeId} {v : Value} {ps : List MemPlace} {dd : DataW H} (hval : Value.okWide P w r b0 t v) (hd : DataW.Trod enc P w 0 spare held t v dd ps) {ty : Ty} {n : Nat} (h : readTy P (n + 1) t = some ty) :
    ∃ d : ty.den, RepD w (below w) ty d v ∧ wfD ty d := by
  obtain ⟨fuel, hf⟩ := hd
  obtain ⟨d, h1, h2⟩ := trod_dat (n + 1) t ty fuel _ _ h hf
  refine ⟨d, ?_, h2⟩
  have one : (∀ d, P.underlying t = some d → (match d with | .bool | .int _ | .slice _ => true | _ => false) = true) → ty.isAgg = false → RepD w (below w) ty d v := by
    intro hn hg
    unfold RepD
    rw [hg]
    rw [okWide_one hval hn h] at h1
    exact h1
  have agg : (∃ cs, v = .agg cs) → ty.isAgg = true → RepD w (below w) ty d v := by
    rintro ⟨cs, rfl⟩ hg
    unfold RepD
    rw [hg]
    exact ⟨cs, rfl, h1⟩
  have hu : ∃ d, P.underlying t = some d := by
    cases hu : P.underlying t with
    | none => simp only [readTy, hu] at h; cases h
    | some d => exact ⟨d, rfl⟩
  obtain ⟨td, hu⟩ := hu
  simp only [readTy, hu] at h
  split at h
  · rename_i hq; cases hq; simp only [Option.some.injEq] at h; subst h
    exact one (fun d hd => by rw [hu] at hd; cases hd; rfl) rfl
  · rename_i k hq; cases hq; simp only [Option.some.injEq] at h; subst h
    exact one (fun d hd => by rw [hu] at hd; cases hd; rfl) rfl
  · rename_i e hq; cases hq
    split at h
    · split at h
      · simp only [Option.some.injEq] at h; subst h
        exact one (fun d hd => by rw [hu] at hd; cases hd; rfl) rfl
      · cases h
    · cases h
  · rename_i c e hq; cases hq
    have hv : ∃ cs, v = .agg cs := by
      simp only [Value.okWide, hu] at hval
      obtain ⟨cs, rfl, _⟩ := hval
      exact ⟨cs, rfl⟩
    split at h
    · split at h
      · simp only [Option.some.injEq] at h; subst h
        exact agg hv rfl
      · cases h
    · cases h
  · rename_i fs hq; cases hq
    have hv : ∃ cs, v = .agg cs := by
      simp only [Value.okWide, hu] at hval
      obtain ⟨cs, rfl, _⟩ := hval
      exact ⟨cs, rfl⟩
    split at h
    · rename_i a ha
      split at h
      · simp only [Option.some.injEq] at h; subst h
        refine agg hv ?_
        cases hfs : fs.toList with
        | nil => rw [hfs] at ha; simp only [readFs, Option.some.injEq] at ha; subst ha; rfl
        | cons f r =>
          rw [hfs] at ha
          simp only [readFs] at ha
          split at ha
          · split at ha
            · simp only [Option.some.injEq] at ha; subst ha; rfl
            · cases ha
          · cases ha
      · cases h
    · cases h
  · cases h

/-- a function's run, out of its spec: of a world of which nothing is known -/
theorem calls_of_spec {g : FuncId} {s : Spec} (hs : SpecOK P g s) {args : List AV} {b : Bool} {e : Eff} (hrun : s (AV × Eff) args [] [] 0 (fun v e => some (v, e)) = some (.data .bool b, e)) {vals : List Value}
    (hr : RepL w (below w) (fun _ => none) [] args vals) : Calls P g vals.toArray w fun en w' => en = .returned (.bool b) ∧ Below w.heap.size w w' := by
  obtain ⟨v, e', h1, _, _, h4⟩ := hs _ args [] [] 0 _ _ hrun
  simp only [Option.some.injEq, Prod.mk.injEq] at h1
  obtain ⟨rfl, rfl⟩ := h1
  have hi : HI w (below w) (fun _ => none) [] [] := ⟨fun id o h => by simp at h, fun i j b c b' c' h => by simp [owned] at h, fun i b c h => by simp [owned] at h, fun i T t xs b c h => by simp at h, fun b h => h, rfl⟩
  refine (h4 w _ _ vals hi hr).mono ?_
  rintro en w' ⟨u, rfl, F', m', ⟨hx, _⟩, hu⟩
  have hb : u = .bool b := rep_bool hu
  subst hb
  exact ⟨rfl, hx.os, hx.tape, hx.output, hx.size, fun i hi => hx.keep i hi fun j c ho _ => by simp [owned] at ho⟩
end

section
variable {H : Type} {enc : TypeId × Value → H} {P : Program}
theorem post_of_below {f : Func} {s : ChangeSpec} {apart fresh handsOn again : Bool} {W W' : World} {args : Array Value} {v : Value} {ds gs : List (DataW H)} {before pa pv : List MemPlace}
    (hW : DataW.Whole enc P f.params.toList s.vars apart W args.toList ds gs before)
    (hres : ∀ (b : Nat) (sp : Nat → Bool) (hd : Bool), DataW.TrodAll enc P W' b sp hd f.resultTypes.toList (v.resultList f.resultTypes.size) (s.fn H (ds ++ gs)).results [])
    (hargs : ∀ sp : Nat → Bool, (∀ p ∈ before, sp p.block = true) → DataW.TrodAll enc P W' 0 sp true f.params.toList args.toList (s.fn H (ds ++ gs)).args pa)
    (hvars : ∀ sp : Nat → Bool, (∀ p ∈ before, sp p.block = true) → DataW.TrodVars enc P W' sp s.vars (s.fn H (ds ++ gs)).vars pv)
    (hps : before = pa ++ pv) (hb : Below W.heap.size W W')
    (hok : ∀ (j : Nat) (t : TypeId) (r : Value), f.resultTypes[j]? = some t → (v.resultList f.resultTypes.size)[j]? = some r → Value.okWide P W' .any 0 t r) :
    s.post enc P f apart fresh handsOn again W args v W' := by
  have hlt : ∀ p ∈ before, p.block < W.heap.size := fun p hp => hW.lt p hp
  have hold : ∀ p ∈ before, (fun b => decide (b < W.heap.size)) p.block = true := fun p hp => by simpa using hlt p hp
  refine ⟨ds, gs, before, [], pa, pv, hW, hres _ _ _, hargs _ hold, hvars _ hold, World.keptBut_mono (fun p hp => ⟨hp, ?_⟩) (hb.frame (· ∈ before)), fun _ => ?_⟩
  · rw [hps, List.mem_append] at hp
    exact Or.inr hp
  · obtain ⟨_, _, _, _, _, hz, hn⟩ := hW
    refine ⟨hok, _, _, ([] ++ pa) ++ pv, ⟨[] ++ pa, pv, trodAll_append (hargs _ (fun _ _ => rfl)) (hres _ _ _), hvars _ (fun _ _ => rfl), rfl, ?_, ?_⟩, ?_⟩
    · intro b off hp
      have hin : MemPlace.cell b off ∈ before := by rw [hps]; simpa using hp
      rw [hb.frozen (hlt _ hin)]
      exact hz b off hin
    · intro ha
      have := hn ha
      rw [hps] at this
      simpa using this
    · intro p hp _
      rw [hps]
      simpa using hp

/-- an argument reads behind the call as it did -/
theorem trod_after {t : TypeId} (hl : laidOutB P = true) (hr : P.readableRec t = true) (hrow : t < P.types.size) {W W' : World} {v : Value} {d : DataW H} {ps : List MemPlace}
    (h : DataW.Trod enc P W 0 (fun _ => true) true t v d ps) (hb : Below W.heap.size W W') (hlt : ∀ x ∈ ps, x.block < W.heap.size) {sp : Nat → Bool} (hs : ∀ x ∈ ps, sp x.block = true) :
    DataW.Trod enc P W' 0 sp true t v d ps :=
  WideElems.Trod_stays hl hr hrow h (fun x hx => hb.same (hlt x hx)) hs
end
end Go.Pev
end
section
/- What many laws of forests want. -/
namespace Go.Pev.Pl
open Go.RowKit Tok
theorem ieq_self (a : Int) : ieq a a = true := by rw [ieq_eq]; simp
def Dom (rings : List (List Int)) : Prop := rings.length < 1073741824 ∧ ∀ l ∈ rings, l.length < 9223372036854775808 ∧ ∀ x ∈ l, -9223372036854775808 ≤ x ∧ x ≤ 9223372036854775807
theorem FR.dom {n : Int} {rings : List (List Int)} (h : FR n rings) : Dom rings := by
  have h1 := RF_iff.2 h
  have h2 := okR_len h.sz.1 h1.2.1 (by omega) (by have := h.sz.1; omega)
  have h3 := h.sz.2
  refine ⟨by omega, fun l hl => ?_⟩
  have := (h.rg l hl).1
  exact ⟨by have := this.1; omega, fun x hx => by have := this.2.1 x hx; omega⟩
theorem hd_mem {l : List Int} (h : l ≠ []) : hd l ∈ l := by
  cases l with
  | nil => exact absurd rfl h
  | cons x l => simp [hd]
theorem tof_val (n : Int) (rings : List (List Int)) (v : Int) (hD : Dom rings) : tof ((n, (rings, ())), v, ()) = some (if RF n rings ∧ In n v then plc rings v else -1, ()) := by
  rw [tof_eq, tof_d]
  simp only [tin_val, tright_val n rings hD.1 hD.2, tplace_val n rings v hD.1 (fun l hl => (hD.2 l hl).1)]
  by_cases h1 : In n v
  · by_cases h2 : RF n rings <;> simp [h1, h2]
  · simp [h1]
end Go.Pev.Pl
end
section
/- Who is asked, and is there; a tree's vertices. -/
namespace Go.Pev.Pl
open Tok

/-- vertices among tokens -/
def lows (n : Int) (xs : List Int) : List Int := xs.filter fun t => !decide (n ≤ t)

/-- may be asked, and is there -/
noncomputable def askE (n : Int) (rings : List (List Int)) (ok : Bool) : Int := if RF n rings then if ok then 0 else 10 else 1

theorem cont_there (n : Int) (rings : List (List Int)) (xs : List Int) (hs : xs.length < 9223372036854775808) : contFuncI_there (xs, n, rings, ()) = some (n, rings, xs.any (fun x => decide (x < 0) || decide (n ≤ x)), ()) := by
  rw [contFuncI_there_eq, contFuncI_there_d, idxFuncI_there_eq, idxFuncI_there_d]
  have e := findL (step := idxFuncI_there_s0) (fun i => (n, rings, xs, dlen xs, (i : Int), ())) xs (fun x => decide (x < 0) || decide (n ≤ x)) (fun i => .inl (n, rings, (i : Int), ())) (.inr (.inl (n, rings, ()))) hs
    (fun i x hi hx => by
      rw [idxFuncI_there_s0, dlen_l, ilt_nat, decide_eq_true hi]
      simp only [idx_some hx, ilt_eq, ile_eq]
      rw [wrap_add1 (by omega)]
      by_cases h : x < 0
      · simp [h]
      · by_cases h2 : n ≤ x
        · simp [h, h2]
        · simp [h, h2])
    (by rw [idxFuncI_there_s0, dlen_l, ilt_nat, decide_eq_false (by omega)])
  have e' : iterL idxFuncI_there_s0 many (n, rings, xs, dlen xs, (0 : Int), ()) = _ := e
  rw [e']
  generalize (xs.any fun x => decide (x < 0) || decide (n ≤ x)) = b
  cases b <;> simp [ile_eq]

theorem In_not {n v : Int} (hS : Sz n) : (decide (v < 0) || decide (n ≤ v)) = !decide (In n v) := by
  by_cases h : In n v
  · obtain ⟨_, _, h3, h4⟩ := h
    simp [In, hS.1, hS.2, h3, h4]
  · have : v < 0 ∨ n ≤ v := by
      refine Classical.byContradiction fun hc => h ⟨hS.1, hS.2, by omega, by omega⟩
    rcases this with g | g <;> simp [h, g]

theorem fthere_val (n : Int) (rings : List (List Int)) (xs : List Int) (hD : Dom rings) (hs : xs.length < 9223372036854775808) : fthere ((n, (rings, ())), xs, ()) = some (askE n rings (xs.all fun v => decide (In n v)), ()) := by
  rw [fthere_eq, fthere_d]
  simp only [tright_val n rings hD.1 hD.2, cont_there n rings xs hs, askE]
  by_cases h : RF n rings
  · have hb : (xs.any fun x => decide (x < 0) || decide (n ≤ x)) = !(xs.all fun v => decide (In n v)) := by
      rw [List.not_all_eq_any_not]
      congr 1
      funext x
      exact In_not h.1
    simp only [h, decide_true, Bool.not_true, hb, if_true]
    cases xs.all fun v => decide (In n v) <;> rfl
  · simp [h]

/-- a tree's vertices, rising -/
def verts (n : Int) (A : List Int) : List Int := ((List.range n.toNat).map fun (k : Nat) => (k : Int)).filter fun v => decide (v ∈ A)

theorem verts_mem {n : Int} {A : List Int} (v : Int) : v ∈ verts n A ↔ 0 ≤ v ∧ v < n ∧ v ∈ A := by
  rw [verts, List.mem_filter, List.mem_map, decide_eq_true_eq]
  constructor
  · rintro ⟨⟨k, hk, rfl⟩, h⟩
    rw [List.mem_range] at hk
    exact ⟨by omega, by omega, h⟩
  · rintro ⟨h1, h2, h3⟩
    exact ⟨⟨v.toNat, by rw [List.mem_range]; omega, by omega⟩, h3⟩
theorem verts_up (n : Int) (A : List Int) : (verts n A).Pairwise (· < ·) := by
  rw [verts]
  refine List.Pairwise.filter _ ?_
  rw [List.pairwise_map]
  exact List.pairwise_lt_range.imp fun h => by omega

theorem lows_perm {n : Int} {A : List Int} (h : RG n A) : (lows n A).Perm (verts n A) := by
  have hl : (lows n A).Nodup := h.1.2.2.filter _
  have hv : (verts n A).Nodup := (verts_up n A).imp fun h => by omega
  exact (List.perm_ext_iff_of_nodup hl hv).2 fun v => by
    rw [verts_mem, lows, List.mem_filter]
    simp only [Bool.not_eq_true', decide_eq_false_iff_not]
    constructor
    · rintro ⟨h1, h2⟩
      have := (h.1.2.1 v h1).1
      exact ⟨this, by omega, h1⟩
    · rintro ⟨h1, h2, h3⟩
      exact ⟨h3, by omega⟩

theorem lows_len {n : Int} {A : List Int} (h : RG n A) : A.length + 2 = 3 * (verts n A).length := by
  rw [← (lows_perm h).length_eq]
  obtain ⟨L, q1, q2, q3⟩ := h.2.2.2
  have hv : lows n A = vers L := by
    rw [q1]
    clear q1 q3
    induction L with
    | nil => rfl
    | cons t L ih =>
      have h1 := ih fun t ht => q2 t (List.mem_cons_of_mem _ ht)
      have h2 := q2 t (by simp)
      rw [lows] at h1 ⊢
      cases t with
      | ver v =>
        have : ¬ n ≤ v := by have := h2.2.2.2; omega
        rw [List.map_cons, List.filter_cons_of_pos (by simp only [encT]; simp [this]), h1, vers]
        rfl
      | arc u v =>
        have := (enc_arc h2.1 h2.2.1).1
        rw [List.map_cons, List.filter_cons_of_neg (by simp only [encT]; simp [this]), h1, vers]
  rw [hv, q1, List.length_map]
  exact q3.len

end Go.Pev.Pl
end
section
/- The sort by a compare function. -/
namespace Go.Pev.Pl.SL
open Go.Sort
/-- lists that aren't empty -/
def ok (l : List Int) : Prop := l ≠ []
def okz : List Int := [0]
theorem okz_ok : ok okz := by simp [ok, okz]
def lt (x y : List Int) : Bool := ltInt (x.headD 0) (y.headD 0)
theorem swo : SWO lt := ⟨fun x => swo_ltInt.irrefl _, fun x y z => swo_ltInt.trans _ _ _, fun x y z => swo_ltInt.ntrans _ _ _⟩
theorem cmp_ok {x y : List Int} (hx : ok x) (hy : ok y) : ∃ c, with1 (x, y, ()) = some (c, ()) ∧ ilt c (0 : Int) = lt x y := by
  cases x with
  | nil => exact absurd rfl hx
  | cons a x =>
    cases y with
    | nil => exact absurd rfl hy
    | cons b y =>
      rw [with1_eq, with1_d]
      have i1 : idx (a :: x) (0 : Int) = some a := by rw [idx_eq]; rfl
      have i2 : idx (b :: y) (0 : Int) = some b := by rw [idx_eq]; rfl
      simp only [i1, i2, compareI_eq, compareI_d, nanI_eq, nanI_d]
      simp only [ieq_eq, ilt_eq, lt, List.headD_cons, ltInt]
      by_cases h : a < b
      · simp [h]
      · by_cases h2 : b < a
        · simp [h, h2]
        · simp [h, h2]

abbrev EL := {x : List Int // ok x}
instance : Inhabited EL := ⟨⟨okz, okz_ok⟩⟩
def rep (d : Array EL) : List (List Int) := d.toList.map Subtype.val
theorem idx_at {d : Array EL} {n : Nat} (h : n < d.size) : idx (rep d) (n : Int) = some (d[n]!).val := by
  rw [idx_eq, idxR, if_neg (by omega)]
  simp [rep, h]
theorem dget_at {d : Array EL} {n : Nat} {z : List Int} (h : n < d.size) : dget (rep d) (dnat (n : Int)) z = (d[n]!).val := by
  simp [dget, dnat, rep, h]
theorem dset_at {d : Array EL} {n : Nat} {x : EL} : dset (rep d) (dnat (n : Int)) x.val = rep (d.setIfInBounds n x) := by
  simp [dset, dnat, rep, List.map_set]
theorem dlen_at {d : Array EL} : dlen (rep d) = (d.size : Int) := by simp [dlen, rep]
def ltX (x y : EL) : Bool := lt x.val y.val
theorem swoX : SWO ltX := ⟨fun x => swo.irrefl x.val, fun x y z => swo.trans x.val y.val z.val, fun x y z => swo.ntrans x.val y.val z.val⟩
noncomputable def cmpX (x y : EL) : Int := match with1 (x.val, y.val, ()) with
  | some (c, _) => c
  | none => 0
theorem less_val (x y : EL) : with1 (x.val, y.val, ()) = some (cmpX x y, ()) := by
  obtain ⟨c, e, _⟩ := cmp_ok x.property y.property
  rw [cmpX, e]
theorem less_lt (x y : EL) : ilt (cmpX x y) (0 : Int) = ltX x y := by
  obtain ⟨c, e, h⟩ := cmp_ok x.property y.property
  rw [cmpX, e]
  exact h
theorem insL_in (a b i : Nat) : ∀ (j : Nat) (d : Array EL) (n : Nat), j < d.size → d.size < 4611686018427387904 → j < n →
    iterO insL_s1 n ((rep d), (a : Int), (b : Int), (i : Int), (j : Int), ()) = some (.inl ((rep (insInner ltX a j d)), (a : Int), (b : Int), (i : Int), ())) := by
  intro j
  induction j with
  | zero =>
    intro d n hj hs hn
    obtain ⟨n, rfl⟩ : ∃ k, n = k + 1 := ⟨n - 1, by omega⟩
    have h0 : ilt (a : Int) ((0 : Nat) : Int) = false := by rw [ilt_nat]; simp
    simp only [iterO, insL_s1, h0, insInner]
  | succ j ih =>
    intro d n hj hs hn
    obtain ⟨n, rfl⟩ : ∃ k, n = k + 1 := ⟨n - 1, by omega⟩
    have e1 : IntKind.wrap .i64 (((j + 1 : Nat) : Int) - 1) = (j : Int) := by rw [wrap_in (by omega)]; omega
    have hj' : j < d.size := by omega
    simp only [iterO, insL_s1, ilt_nat, e1, idx_at hj, idx_at hj', dget_at hj, dget_at hj', less_val, less_lt, insInner, gt_iff_lt]
    by_cases h1 : a < j + 1
    · cases h2 : ltX d[j + 1]! d[j]!
      · simp only [h1, decide_true, h2, Bool.and_false, Bool.false_eq_true, if_false]
      · simp only [h1, decide_true, h2, Bool.and_true, if_true, dset_at]
        rw [idx_at (by simpa using hj')]
        simp only [swp_fold]
        exact ih (swp d (j + 1) j) n (by rw [size_swp]; omega) (by rw [size_swp]; omega) (by omega)
    · simp only [h1, decide_false, Bool.false_and, Bool.false_eq_true, if_false]

theorem size_insInner (lt : EL → EL → Bool) (a j : Nat) (d : Array EL) : (insInner lt a j d).size = d.size := by
  induction j generalizing d with
  | zero => rfl
  | succ j ih =>
    rw [insInner]
    split
    · rw [ih, size_swp]
    · rfl

theorem insL_out (a b : Nat) : ∀ (k i : Nat) (d : Array EL) (n : Nat), b - i = k → b ≤ d.size → d.size < 4611686018427387904 → d.size < many → k < n →
    iterO insL_s0 n ((rep d), (a : Int), (b : Int), (i : Int), ()) = some (.inl ((rep (insOuter ltX a b i d)), ())) := by
  intro k
  induction k with
  | zero =>
    intro i d n hk hb hs hm hn
    obtain ⟨n, rfl⟩ : ∃ k, n = k + 1 := ⟨n - 1, by omega⟩
    have h0 : ¬ i < b := by omega
    rw [insOuter]
    simp only [iterO, insL_s0, ilt_nat, h0, decide_false, if_false]
  | succ k ih =>
    intro i d n hk hb hs hm hn
    obtain ⟨n, rfl⟩ : ∃ k, n = k + 1 := ⟨n - 1, by omega⟩
    have h0 : i < b := by omega
    have e1 : IntKind.wrap .i64 ((i : Int) + 1) = ((i + 1 : Nat) : Int) := by rw [wrap_in (by omega)]; omega
    rw [insOuter]
    simp only [iterO, insL_s0, ilt_nat, h0, decide_true, if_true, iterL_eq]
    rw [insL_in a b i i d many (by omega) hs (by omega)]
    simp only [e1]
    exact ih (i + 1) _ n (by omega) (by rw [size_insInner]; omega) (by rw [size_insInner]; omega) (by rw [size_insInner]; omega) (by omega)

theorem insL_val (d : Array EL) (a b : Nat) (hab : a ≤ b) (hb : b ≤ d.size) (hs : d.size < 4294967296) : insL ((rep d), (a : Int), (b : Int), ()) = some ((rep (insertionSort ltX d a b)), ()) := by
  have hm : d.size < many := by simp only [many]; omega
  have e1 : IntKind.wrap .i64 ((a : Int) + 1) = ((a + 1 : Nat) : Int) := by rw [wrap_in (by omega)]; omega
  rw [insL_eq, insL_d]
  simp only [e1, iterL_eq]
  rw [insL_out a b (b - (a + 1)) (a + 1) d many rfl hb (by omega) hm (by omega)]
  rfl
end Go.Pev.Pl.SL
end
section
namespace Go.Pev.Pl.SL
open Go.Sort
theorem siftL_loop (hi first : Nat) : ∀ (k root : Nat) (d : Array EL) (n : Nat), hi - root = k → root ≤ hi → first + hi ≤ d.size → d.size < 4294967296 → (hi = 0 ∨ root < hi) → k < n →
    iterO siftL_s0 n ((rep d), (hi : Int), (first : Int), (root : Int), ()) = some (.inl ((rep (siftDown ltX hi first root d)), ())) ∨
    iterO siftL_s0 n ((rep d), (hi : Int), (first : Int), (root : Int), ()) = some (.inr (.inl ((rep (siftDown ltX hi first root d)), ()))) := by
  intro k
  induction k using Nat.strongRecOn with
  | _ k ih =>
  intro root d n hk hr hf hs hz hn
  obtain ⟨n, rfl⟩ : ∃ k, n = k + 1 := ⟨n - 1, by omega⟩
  rw [siftDown]
  simp (disch := omega) only [iterO, siftL_s0, wrap_2mul, wrap_add1, wrap_add, ile_nat, ilt_nat]
  by_cases h1 : hi ≤ 2 * root + 1
  · simp only [h1, decide_true, ge_iff_le, dite_true, true_or]
  · have i0 : first + root < d.size := by omega
    have i1 : first + (2 * root + 1) < d.size := by omega
    simp only [h1, decide_false, ge_iff_le, if_false, dite_false]
    simp (disch := omega) only [idx_at, dget_at, less_val, less_lt]
    by_cases h2 : 2 * root + 1 + 1 < hi
    · have i2 : first + (2 * root + 2) < d.size := by omega
      have i3 : 2 * root + 1 + 1 = 2 * root + 2 := by omega
      have i4 : first + (2 * root + 1) + 1 = first + (2 * root + 2) := by omega
      have h3 : 2 * root + 2 < hi := by omega
      simp only [i3, i4, h3, decide_true]
      simp (disch := omega) only [idx_at, dget_at, less_val, less_lt, dset_at]
      cases h4 : ltX d[first + (2 * root + 1)]! d[first + (2 * root + 2)]!
      · simp only [Bool.and_false, Bool.false_eq_true, if_false]
        cases h5 : ltX d[first + root]! d[first + (2 * root + 1)]!
        · simp
        · simp only [Bool.not_true, Bool.false_eq_true, if_false]
          rw [idx_at (by simpa using i1)]
          simp only [swp_fold]
          exact ih (hi - (2 * root + 1)) (by omega) (2 * root + 1) _ n rfl (by omega) (by rw [size_swp]; omega) (by rw [size_swp]; omega) (by omega) (by omega)
      · simp only [Bool.and_true, if_true]
        cases h5 : ltX d[first + root]! d[first + (2 * root + 2)]!
        · simp
        · simp only [Bool.not_true, Bool.false_eq_true, if_false, dite_true]
          rw [idx_at (by simpa using i2)]
          simp only [swp_fold]
          exact ih (hi - (2 * root + 2)) (by omega) (2 * root + 2) _ n rfl (by omega) (by rw [size_swp]; omega) (by rw [size_swp]; omega) (by omega) (by omega)
    · simp only [h2, decide_false, Bool.false_and, Bool.false_eq_true, if_false, dset_at]
      cases h5 : ltX d[first + root]! d[first + (2 * root + 1)]!
      · simp
      · simp only [Bool.not_true, Bool.false_eq_true, if_false]
        rw [idx_at (by simpa using i1)]
        simp only [swp_fold]
        exact ih (hi - (2 * root + 1)) (by omega) (2 * root + 1) _ n rfl (by omega) (by rw [size_swp]; omega) (by rw [size_swp]; omega) (by omega) (by omega)

theorem siftL_val (d : Array EL) (root hi first : Nat) (hf : first + hi ≤ d.size) (hs : d.size < 4294967296) (hz : hi = 0 ∧ root = 0 ∨ root < hi) : siftL ((rep d), (root : Int), (hi : Int), (first : Int), ()) = some ((rep (siftDown ltX hi first root d)), ()) := by
  have hm : d.size < many := by simp only [many]; omega
  rw [siftL_eq, siftL_d]
  simp only [iterL_eq]
  rcases siftL_loop hi first (hi - root) root d many rfl (by omega) hf hs (by omega) (by omega) with h | h <;> rw [h]

theorem size_siftDown (lt : EL → EL → Bool) (hi first : Nat) : ∀ (k root : Nat) (d : Array EL), hi - root = k → (siftDown lt hi first root d).size = d.size := by
  intro k
  induction k using Nat.strongRecOn with
  | _ k ih =>
  intro root d hk
  rw [siftDown]
  split
  · rfl
  · split
    · split
      · rfl
      · split
        · rw [ih (hi - (2 * root + 2)) (by omega) _ _ rfl, size_swp]
        · rfl
    · split
      · rfl
      · rw [ih (hi - (2 * root + 1)) (by omega) _ _ rfl, size_swp]

theorem heapL_build (hi first : Nat) : ∀ (k : Nat) (d : Array EL) (n : Nat), (hi = 0 ∧ k ≤ 1 ∨ k ≤ hi) → first + hi ≤ d.size → d.size < 4294967296 → k < n →
    iterO heapL_s0 n ((rep d), (first : Int), (0 : Int), (hi : Int), (k : Int) - 1, ()) = some (.inl ((rep (heapBuild ltX hi first k d)), (first : Int), (0 : Int), (hi : Int), ())) := by
  intro k
  induction k with
  | zero =>
    intro d n hk hf hs hn
    obtain ⟨n, rfl⟩ : ∃ k, n = k + 1 := ⟨n - 1, by omega⟩
    rw [iterO, heapL_s0, ile_eq, decide_eq_false (by omega)]
    rfl
  | succ k ih =>
    intro d n hk hf hs hn
    obtain ⟨n, rfl⟩ : ∃ k, n = k + 1 := ⟨n - 1, by omega⟩
    have e0 : ((k + 1 : Nat) : Int) - 1 = (k : Int) := by omega
    rw [iterO, heapL_s0, e0, ile_eq, decide_eq_true (by omega)]
    simp only [siftL_val d k hi first hf hs (by omega)]
    rw [wrap_in (by omega)]
    exact ih _ n (by omega) (by rw [size_siftDown _ _ _ _ _ _ rfl]; omega) (by rw [size_siftDown _ _ _ _ _ _ rfl]; omega) (by omega)

theorem size_heapBuild (lt : EL → EL → Bool) (hi first : Nat) : ∀ (k : Nat) (d : Array EL), (heapBuild lt hi first k d).size = d.size := by
  intro k
  induction k with
  | zero => intro d; rfl
  | succ k ih => intro d; rw [heapBuild, ih, size_siftDown _ _ _ _ _ _ rfl]

theorem heapL_pop (first : Nat) : ∀ (k : Nat) (d : Array EL) (n : Nat), first + k ≤ d.size → d.size < 4294967296 → k < n →
    iterO heapL_s1 n ((rep d), (first : Int), (0 : Int), (k : Int) - 1, ()) = some (.inl ((rep (heapPop ltX first k d)), ())) := by
  intro k
  induction k with
  | zero =>
    intro d n hf hs hn
    obtain ⟨n, rfl⟩ : ∃ k, n = k + 1 := ⟨n - 1, by omega⟩
    rw [iterO, heapL_s1, ile_eq, decide_eq_false (by omega)]
    rfl
  | succ k ih =>
    intro d n hf hs hn
    obtain ⟨n, rfl⟩ : ∃ k, n = k + 1 := ⟨n - 1, by omega⟩
    have e0 : ((k + 1 : Nat) : Int) - 1 = (k : Int) := by omega
    have i0 : first < d.size := by omega
    have i1 : first + k < d.size := by omega
    rw [iterO, heapL_s1, e0, ile_eq, decide_eq_true (by omega)]
    simp (disch := omega) only [wrap_add, idx_at, dget_at, dset_at]
    rw [idx_at (by simpa using i1)]
    simp only [swp_fold]
    have := siftL_val (swp d first (first + k)) 0 k first (by rw [size_swp]; omega) (by rw [size_swp]; omega) (by omega)
    simp only [Int.natCast_zero] at this
    simp only [this]
    rw [wrap_in (by omega)]
    exact ih _ n (by rw [size_siftDown _ _ _ _ _ _ rfl, size_swp]; omega) (by rw [size_siftDown _ _ _ _ _ _ rfl, size_swp]; omega) (by omega)

theorem heapL_val (d : Array EL) (a b : Nat) (hab : a < b) (hb : b ≤ d.size) (hs : d.size < 4294967296) : heapL ((rep d), (a : Int), (b : Int), ()) = some ((rep (heapSort ltX d a b)), ()) := by
  have hm : 4294967296 < many := by simp only [many]; omega
  rw [heapL_eq, heapL_d]
  simp (disch := omega) only [wrap_sub, wrap_sub1, quo_2, iterL_eq]
  have e : (((b - a - 1) / 2 : Nat) : Int) = (((b - a - 1) / 2 + 1 : Nat) : Int) - 1 := by omega
  rw [e, heapL_build (b - a) a _ d many (by omega) (by omega) hs (by omega)]
  have e2 : (((b - a - 1 : Nat)) : Int) = ((b - a : Nat) : Int) - 1 := by omega
  simp (disch := omega) only [wrap_sub1, e2]
  rw [heapL_pop a (b - a) _ many (by rw [size_heapBuild]; omega) (by rw [size_heapBuild]; omega) (by omega)]
  rfl
end Go.Pev.Pl.SL
end
section
namespace Go.Pev.Pl.SL
open Go.Sort
theorem revL_loop : ∀ (k i j : Nat) (d : Array EL) (n : Nat), j - i = k → (j < d.size) → d.size < 4294967296 → k < n →
    iterO revL_s0 n ((rep d), (i : Int), (j : Int), ()) = some (.inl ((rep (reverseLoop i j d)), ())) := by
  intro k
  induction k using Nat.strongRecOn with
  | _ k ih =>
  intro i j d n hk hj hs hn
  obtain ⟨n, rfl⟩ : ∃ k, n = k + 1 := ⟨n - 1, by omega⟩
  rw [reverseLoop, iterO, revL_s0]
  simp only [ilt_nat]
  by_cases h : i < j
  · have hi : i < d.size := by omega
    simp only [h, decide_true, if_true, idx_at hj, idx_at hi, dget_at hi, dget_at hj, dset_at]
    rw [idx_at (by simpa using hj)]
    simp (disch := omega) only [swp_fold, wrap_add1, wrap_sub1]
    exact ih (j - 1 - (i + 1)) (by omega) (i + 1) (j - 1) _ n rfl (by rw [size_swp]; omega) (by rw [size_swp]; omega) (by omega)
  · simp only [h, decide_false, if_false]

theorem revL_val (d : Array EL) (a b : Nat) (hab : a < b) (hb : b ≤ d.size) (hs : d.size < 4294967296) : revL ((rep d), (a : Int), (b : Int), ()) = some ((rep (reverseRange d a b)), ()) := by
  have hm : 4294967296 < many := by simp only [many]; omega
  rw [revL_eq, revL_d]
  simp (disch := omega) only [wrap_sub1, iterL_eq]
  rw [revL_loop (b - 1 - a) a (b - 1) d many rfl (by omega) hs (by omega)]
  rfl

theorem swapL {d : Array EL} {i j : Nat} (hi : i < d.size) (hj : j < d.size) : idx (dset (rep d) (dnat (i : Int)) (dget (rep d) (dnat (j : Int)) ([] : List Int))) (j : Int) = some ((d.setIfInBounds i d[j]!)[j]!).val ∧
    dset (dset (rep d) (dnat (i : Int)) (dget (rep d) (dnat (j : Int)) ([] : List Int))) (dnat (j : Int)) (dget (rep d) (dnat (i : Int)) ([] : List Int)) = (rep (swp d i j)) := by
  rw [dget_at hi, dget_at hj, dset_at, dset_at]
  exact ⟨idx_at (by simpa using hj), rfl⟩

/- the scans -/
theorem scanUpL (step : List (List Int) × Int × Int × Int × Unit → Option ((List (List Int) × Int × Int × Int × Unit) ⊕ (List (List Int) × Int × Int × Int × Unit) ⊕ Unit)) (p : EL → Bool) (d : Array EL) (a j : Nat) (hs : d.size < 4294967296) (hj : j < d.size)
    (h : ∀ i : Nat, i ≤ d.size → step ((rep d), (a : Int), (i : Int), (j : Int), ()) = if i ≤ j ∧ p d[i]! then some (.inl ((rep d), (a : Int), ((i + 1 : Nat) : Int), (j : Int), ())) else some (.inr (.inl ((rep d), (a : Int), (i : Int), (j : Int), ())))) :
    ∀ (k i n : Nat), j + 1 - i = k → i ≤ d.size → k < n → iterO step n ((rep d), (a : Int), (i : Int), (j : Int), ()) = some (.inl ((rep d), (a : Int), ((scanUp p d j i : Nat) : Int), (j : Int), ())) := by
  intro k
  induction k using Nat.strongRecOn with
  | _ k ih =>
  intro i n hk hi hn
  obtain ⟨n, rfl⟩ : ∃ k, n = k + 1 := ⟨n - 1, by omega⟩
  rw [scanUp, iterO, h i hi]
  by_cases h1 : i ≤ j ∧ p d[i]! = true
  · rw [if_pos h1, if_pos (by simpa using h1)]
    exact ih (j + 1 - (i + 1)) (by omega) (i + 1) n rfl (by omega) (by omega)
  · rw [if_neg h1, if_neg (by simpa using h1)]

theorem scanDownL (step : List (List Int) × Int × Int × Int × Unit → Option ((List (List Int) × Int × Int × Int × Unit) ⊕ (List (List Int) × Int × Int × Int × Unit) ⊕ Unit)) (p : EL → Bool) (d : Array EL) (a i : Nat) (hi : 1 ≤ i)
    (h : ∀ j : Nat, j < d.size → step ((rep d), (a : Int), (i : Int), (j : Int), ()) = if i ≤ j ∧ p d[j]! then some (.inl ((rep d), (a : Int), (i : Int), ((j - 1 : Nat) : Int), ())) else some (.inr (.inl ((rep d), (a : Int), (i : Int), (j : Int), ())))) :
    ∀ (j n : Nat), j < d.size → j < n → iterO step n ((rep d), (a : Int), (i : Int), (j : Int), ()) = some (.inl ((rep d), (a : Int), (i : Int), ((scanDown p d i j : Nat) : Int), ())) := by
  intro j
  induction j with
  | zero =>
    intro n hj hn
    obtain ⟨n, rfl⟩ : ∃ k, n = k + 1 := ⟨n - 1, by omega⟩
    rw [iterO, h 0 hj, if_neg (by omega)]
    rfl
  | succ j ih =>
    intro n hj hn
    obtain ⟨n, rfl⟩ : ∃ k, n = k + 1 := ⟨n - 1, by omega⟩
    rw [scanDown, iterO, h (j + 1) hj]
    by_cases h1 : i ≤ j + 1 ∧ p d[j + 1]! = true
    · rw [if_pos h1, if_pos (by simpa using h1)]
      exact ih n (by omega) (by omega)
    · rw [if_neg h1, if_neg (by simpa using h1)]

section
variable (d : Array EL) (a i j : Nat) (hs : d.size < 4294967296) (ha : a < d.size) (hj : j < d.size)
include hs ha hj
theorem partL_s0_at (hi : i ≤ d.size) : partL_s0 ((rep d), (a : Int), (i : Int), (j : Int), ()) = if i ≤ j ∧ (fun x => ltX x d[a]!) d[i]! = true then some (.inl ((rep d), (a : Int), ((i + 1 : Nat) : Int), (j : Int), ())) else some (.inr (.inl ((rep d), (a : Int), (i : Int), (j : Int), ()))) := by
  rw [partL_s0]
  simp only [ile_nat]
  by_cases h : i ≤ j
  · have hi' : i < d.size := by omega
    simp (disch := omega) only [h, decide_true, idx_at, dget_at, less_val, less_lt, wrap_add1, true_and]
    cases ltX d[i]! d[a]! <;> simp
  · simp only [h, decide_false, false_and, if_false]
theorem partL_s3_at (hi : i ≤ d.size) : partL_s3 ((rep d), (a : Int), (i : Int), (j : Int), ()) = if i ≤ j ∧ (fun x => ltX x d[a]!) d[i]! = true then some (.inl ((rep d), (a : Int), ((i + 1 : Nat) : Int), (j : Int), ())) else some (.inr (.inl ((rep d), (a : Int), (i : Int), (j : Int), ()))) := by
  rw [partL_s3]
  simp only [ile_nat]
  by_cases h : i ≤ j
  · have hi' : i < d.size := by omega
    simp (disch := omega) only [h, decide_true, idx_at, dget_at, less_val, less_lt, wrap_add1, true_and]
    cases ltX d[i]! d[a]! <;> simp
  · simp only [h, decide_false, false_and, if_false]
theorem partL_s1_at (hi : 1 ≤ i) : partL_s1 ((rep d), (a : Int), (i : Int), (j : Int), ()) = if i ≤ j ∧ (fun x => !ltX x d[a]!) d[j]! = true then some (.inl ((rep d), (a : Int), (i : Int), ((j - 1 : Nat) : Int), ())) else some (.inr (.inl ((rep d), (a : Int), (i : Int), (j : Int), ()))) := by
  rw [partL_s1]
  simp only [ile_nat]
  by_cases h : i ≤ j
  · simp (disch := omega) only [h, decide_true, idx_at, dget_at, less_val, less_lt, wrap_sub1, true_and]
    cases ltX d[j]! d[a]! <;> simp
  · simp only [h, decide_false, false_and, if_false]
theorem partL_s4_at (hi : 1 ≤ i) : partL_s4 ((rep d), (a : Int), (i : Int), (j : Int), ()) = if i ≤ j ∧ (fun x => !ltX x d[a]!) d[j]! = true then some (.inl ((rep d), (a : Int), (i : Int), ((j - 1 : Nat) : Int), ())) else some (.inr (.inl ((rep d), (a : Int), (i : Int), (j : Int), ()))) := by
  rw [partL_s4]
  simp only [ile_nat]
  by_cases h : i ≤ j
  · simp (disch := omega) only [h, decide_true, idx_at, dget_at, less_val, less_lt, wrap_sub1, true_and]
    cases ltX d[j]! d[a]! <;> simp
  · simp only [h, decide_false, false_and, if_false]
theorem partEqL_s1_at (hi : i ≤ d.size) : partEqL_s1 ((rep d), (a : Int), (i : Int), (j : Int), ()) = if i ≤ j ∧ (fun x => !ltX d[a]! x) d[i]! = true then some (.inl ((rep d), (a : Int), ((i + 1 : Nat) : Int), (j : Int), ())) else some (.inr (.inl ((rep d), (a : Int), (i : Int), (j : Int), ()))) := by
  rw [partEqL_s1]
  simp only [ile_nat]
  by_cases h : i ≤ j
  · have hi' : i < d.size := by omega
    simp (disch := omega) only [h, decide_true, idx_at, dget_at, less_val, less_lt, wrap_add1, true_and]
    cases ltX d[a]! d[i]! <;> simp
  · simp only [h, decide_false, false_and, if_false]
theorem partEqL_s2_at (hi : 1 ≤ i) : partEqL_s2 ((rep d), (a : Int), (i : Int), (j : Int), ()) = if i ≤ j ∧ (fun x => ltX d[a]! x) d[j]! = true then some (.inl ((rep d), (a : Int), (i : Int), ((j - 1 : Nat) : Int), ())) else some (.inr (.inl ((rep d), (a : Int), (i : Int), (j : Int), ()))) := by
  rw [partEqL_s2]
  simp only [ile_nat]
  by_cases h : i ≤ j
  · simp (disch := omega) only [h, decide_true, idx_at, dget_at, less_val, less_lt, wrap_sub1, true_and]
    cases ltX d[a]! d[j]! <;> simp
  · simp only [h, decide_false, false_and, if_false]
end

theorem scanUp_size (p : EL → Bool) (d : Array EL) (j i : Nat) (hj : j < d.size) (hi : i ≤ d.size) : scanUp p d j i ≤ d.size := by
  suffices h : ∀ (k i : Nat), j + 1 - i = k → i ≤ d.size → scanUp p d j i ≤ d.size from h _ i rfl hi
  intro k
  induction k using Nat.strongRecOn with
  | _ k ih =>
  intro i hk hi
  rw [scanUp]
  split
  · rename_i h
    have : i ≤ j := by simp at h; exact h.1
    exact ih (j + 1 - (i + 1)) (by omega) (i + 1) rfl (by omega)
  · exact hi

theorem partL_loop (a : Nat) : ∀ (k i j : Nat) (d : Array EL) (n : Nat), j + 1 - i = k → a < d.size → 1 ≤ i → i ≤ d.size → j < d.size → d.size < 4294967296 → k < n →
    iterO partL_s2 n ((rep d), (a : Int), (i : Int), (j : Int), ()) = some (.inl ((rep (partLoop ltX a i j d).2), (a : Int), (((partLoop ltX a i j d).1 : Nat) : Int), ())) ∧ (partLoop ltX a i j d).1 ≤ j ∧ (partLoop ltX a i j d).2.size = d.size := by
  intro k
  induction k using Nat.strongRecOn with
  | _ k ih =>
  intro i j d n hk ha hi hi' hj hs hn
  have hm : 4294967296 < many := by simp only [many]; omega
  obtain ⟨n, rfl⟩ : ∃ k, n = k + 1 := ⟨n - 1, by omega⟩
  rw [partLoop_eq, iterO, partL_s2]
  have u1 := scanUp_ge (fun x => ltX x d[a]!) d j i
  have u2 := scanUp_size (fun x => ltX x d[a]!) d j i hj hi'
  rw [iterL_eq, scanUpL _ (fun x => ltX x d[a]!) d a j hs hj (fun i h => partL_s3_at d a i j hs ha hj h) _ i many rfl hi' (by omega)]
  generalize scanUp (fun x => ltX x d[a]!) d j i = i2 at *
  have v1 := scanDown_le (fun x => !ltX x d[a]!) d i2 j
  simp only [iterL_eq]
  rw [scanDownL _ (fun x => !ltX x d[a]!) d a i2 (by omega) (fun j h => partL_s4_at d a i2 j hs ha h (by omega)) j many hj (by omega)]
  generalize scanDown (fun x => !ltX x d[a]!) d i2 j = j2 at *
  simp only [ilt_nat]
  by_cases h : j2 < i2
  · simp only [h, decide_true, gt_iff_lt, if_true]
    exact ⟨trivial, v1, trivial⟩
  · have hi2 : i2 < d.size := by omega
    have hj2 : j2 < d.size := by omega
    simp only [h, decide_false, gt_iff_lt, if_false, idx_at hi2, idx_at hj2, (swapL hi2 hj2).1, (swapL hi2 hj2).2]
    simp (disch := omega) only [wrap_add1, wrap_sub1]
    obtain ⟨q1, q2, q3⟩ := ih (j2 - 1 + 1 - (i2 + 1)) (by omega) (i2 + 1) (j2 - 1) (swp d i2 j2) n rfl (by rw [size_swp]; omega) (by omega) (by rw [size_swp]; omega) (by rw [size_swp]; omega) (by rw [size_swp]; omega) (by omega)
    exact ⟨q1, by omega, by rw [q3, size_swp]⟩

theorem partL_val (d : Array EL) (a b p : Nat) (ha : a ≤ p) (hp : p < b) (hb : b ≤ d.size) (hs : d.size < 4294967296) :
    partL ((rep d), (a : Int), (b : Int), (p : Int), ()) = some ((rep (partition ltX d a b p).2.2), (((partition ltX d a b p).1 : Nat) : Int), (partition ltX d a b p).2.1, ()) := by
  have hm : 4294967296 < many := by simp only [many]; omega
  have ha' : a < d.size := by omega
  have hp' : p < d.size := by omega
  rw [partL_eq, partL_d, partition]
  simp only [idx_at ha', idx_at hp', (swapL ha' hp').1, (swapL ha' hp').2]
  have hs' := hs
  rw [← size_swp d a p] at ha' hs' hb
  generalize swp d a p = d at *
  simp (disch := omega) only [wrap_add1, wrap_sub1, iterL_eq]
  have u1 := scanUp_ge (fun x => ltX x d[a]!) d (b - 1) (a + 1)
  have u2 := scanUp_size (fun x => ltX x d[a]!) d (b - 1) (a + 1) (by omega) (by omega)
  rw [scanUpL _ (fun x => ltX x d[a]!) d a (b - 1) hs' (by omega) (fun i h => partL_s0_at d a i (b - 1) hs' ha' (by omega) h) _ (a + 1) many rfl (by omega) (by omega)]
  generalize scanUp (fun x => ltX x d[a]!) d (b - 1) (a + 1) = i2 at *
  have v1 := scanDown_le (fun x => !ltX x d[a]!) d i2 (b - 1)
  simp only []
  rw [scanDownL _ (fun x => !ltX x d[a]!) d a i2 (by omega) (fun j h => partL_s1_at d a i2 j hs' ha' h (by omega)) (b - 1) many (by omega) (by omega)]
  generalize scanDown (fun x => !ltX x d[a]!) d i2 (b - 1) = j2 at *
  simp only [ilt_nat]
  have hj2 : j2 < d.size := by omega
  by_cases h : j2 < i2
  · simp only [h, decide_true, gt_iff_lt, if_true, idx_at ha', idx_at hj2, (swapL hj2 ha').1, (swapL hj2 ha').2]
  · have hi2 : i2 < d.size := by omega
    simp only [h, decide_false, gt_iff_lt, if_false, idx_at hi2, idx_at hj2, (swapL hi2 hj2).1, (swapL hi2 hj2).2]
    simp (disch := omega) only [wrap_add1, wrap_sub1]
    obtain ⟨q1, q2, q3⟩ := partL_loop a (j2 - 1 + 1 - (i2 + 1)) (i2 + 1) (j2 - 1) (swp d i2 j2) many rfl (by rw [size_swp]; omega) (by omega) (by rw [size_swp]; omega) (by rw [size_swp]; omega) (by rw [size_swp]; omega) (by omega)
    simp only [q1]
    rw [size_swp] at q3
    generalize partLoop ltX a (i2 + 1) (j2 - 1) (swp d i2 j2) = r at *
    have h1 : r.1 < r.2.size := by omega
    have h2 : a < r.2.size := by omega
    simp only [idx_at h1, idx_at h2, (swapL h1 h2).1, (swapL h1 h2).2]

theorem partEqL_loop (a : Nat) : ∀ (k i j : Nat) (d : Array EL) (n : Nat), j + 1 - i = k → a < d.size → 1 ≤ i → i ≤ d.size → j < d.size → d.size < 4294967296 → k < n →
    iterO partEqL_s0 n ((rep d), (a : Int), (i : Int), (j : Int), ()) = some (.inl ((rep (partEqLoop ltX a i j d).2), (((partEqLoop ltX a i j d).1 : Nat) : Int), ())) := by
  intro k
  induction k using Nat.strongRecOn with
  | _ k ih =>
  intro i j d n hk ha hi hi' hj hs hn
  have hm : 4294967296 < many := by simp only [many]; omega
  obtain ⟨n, rfl⟩ : ∃ k, n = k + 1 := ⟨n - 1, by omega⟩
  rw [partEqLoop_eq, iterO, partEqL_s0]
  have u1 := scanUp_ge (fun x => !ltX d[a]! x) d j i
  have u2 := scanUp_size (fun x => !ltX d[a]! x) d j i hj hi'
  rw [iterL_eq, scanUpL _ (fun x => !ltX d[a]! x) d a j hs hj (fun i h => partEqL_s1_at d a i j hs ha hj h) _ i many rfl hi' (by omega)]
  generalize scanUp (fun x => !ltX d[a]! x) d j i = i2 at *
  have v1 := scanDown_le (fun x => ltX d[a]! x) d i2 j
  simp only [iterL_eq]
  rw [scanDownL _ (fun x => ltX d[a]! x) d a i2 (by omega) (fun j h => partEqL_s2_at d a i2 j hs ha h (by omega)) j many hj (by omega)]
  generalize scanDown (fun x => ltX d[a]! x) d i2 j = j2 at *
  simp only [ilt_nat]
  by_cases h : j2 < i2
  · simp only [h, decide_true, gt_iff_lt, if_true]
  · have hi2 : i2 < d.size := by omega
    have hj2 : j2 < d.size := by omega
    simp only [h, decide_false, gt_iff_lt, if_false, idx_at hi2, idx_at hj2, (swapL hi2 hj2).1, (swapL hi2 hj2).2]
    simp (disch := omega) only [wrap_add1, wrap_sub1]
    exact ih (j2 - 1 + 1 - (i2 + 1)) (by omega) (i2 + 1) (j2 - 1) (swp d i2 j2) n rfl (by rw [size_swp]; omega) (by omega) (by rw [size_swp]; omega) (by rw [size_swp]; omega) (by rw [size_swp]; omega) (by omega)

theorem partEqL_val (d : Array EL) (a b p : Nat) (ha : a ≤ p) (hp : p < b) (hb : b ≤ d.size) (hs : d.size < 4294967296) :
    partEqL ((rep d), (a : Int), (b : Int), (p : Int), ()) = some ((rep (partitionEqual ltX d a b p).2), (((partitionEqual ltX d a b p).1 : Nat) : Int), ()) := by
  have hm : 4294967296 < many := by simp only [many]; omega
  have ha' : a < d.size := by omega
  have hp' : p < d.size := by omega
  rw [partEqL_eq, partEqL_d, partitionEqual]
  simp only [idx_at ha', idx_at hp', (swapL ha' hp').1, (swapL ha' hp').2]
  have hs' := hs
  rw [← size_swp d a p] at ha' hs' hb
  generalize swp d a p = d at *
  simp (disch := omega) only [wrap_add1, wrap_sub1, iterL_eq]
  rw [partEqL_loop a _ (a + 1) (b - 1) d many rfl ha' (by omega) (by omega) (by omega) hs' (by omega)]
end Go.Pev.Pl.SL
end
section
namespace Go.Pev.Pl.SL
open Go.Sort
theorem scanSorted_bounds (d : Array EL) (b : Nat) : ∀ (k i : Nat), b - i = k → i ≤ b → i ≤ scanSorted ltX d b i ∧ scanSorted ltX d b i ≤ b := by
  intro k
  induction k using Nat.strongRecOn with
  | _ k ih =>
  intro i hk hi
  rw [scanSorted]
  split
  · rename_i h
    have : i < b := by simp at h; exact h.1
    have := ih (b - (i + 1)) (by omega) (i + 1) rfl (by omega)
    omega
  · omega

theorem partInsL_scan (d : Array EL) (a b s : Nat) (hb : b ≤ d.size) (hs : d.size < 4294967296) : ∀ (k i n : Nat), b - i = k → 1 ≤ i → i ≤ b → k < n →
    iterO partInsL_s1 n ((rep d), (a : Int), (b : Int), (i : Int), (s : Int), ()) = some (.inl ((rep d), (a : Int), (b : Int), ((scanSorted ltX d b i : Nat) : Int), (s : Int), ())) := by
  intro k
  induction k using Nat.strongRecOn with
  | _ k ih =>
  intro i n hk h1 hi hn
  obtain ⟨n, rfl⟩ : ∃ k, n = k + 1 := ⟨n - 1, by omega⟩
  rw [scanSorted, iterO, partInsL_s1]
  simp only [ilt_nat]
  by_cases h : i < b
  · have i0 : i < d.size := by omega
    have i1 : i - 1 < d.size := by omega
    simp (disch := omega) only [h, decide_true, wrap_sub1, wrap_add1, idx_at, dget_at, less_val, less_lt, Bool.true_and]
    cases h2 : ltX d[i]! d[i - 1]!
    · simp only [Bool.not_false, if_true]
      exact ih (b - (i + 1)) (by omega) (i + 1) n rfl (by omega) (by omega) (by omega)
    · simp only [Bool.not_true, Bool.false_eq_true, if_false]
  · simp only [h, decide_false, Bool.false_and, Bool.false_eq_true, if_false]

theorem partInsL_down (a b i s : Nat) : ∀ (j : Nat) (d : Array EL) (n : Nat), j < d.size → d.size < 4294967296 → j < n →
    iterO partInsL_s2 n ((rep d), (a : Int), (b : Int), (i : Int), (s : Int), (j : Int), ()) = some (.inl ((rep (shiftDown ltX j d)), (a : Int), (b : Int), (i : Int), (s : Int), ())) := by
  intro j
  induction j with
  | zero =>
    intro d n hj hs hn
    obtain ⟨n, rfl⟩ : ∃ k, n = k + 1 := ⟨n - 1, by omega⟩
    rw [iterO, partInsL_s2, ile_eq, decide_eq_false (by omega)]
    rfl
  | succ j ih =>
    intro d n hj hs hn
    obtain ⟨n, rfl⟩ : ∃ k, n = k + 1 := ⟨n - 1, by omega⟩
    have hj' : j < d.size := by omega
    rw [shiftDown, iterO, partInsL_s2, ile_eq, decide_eq_true (by omega)]
    simp (disch := omega) only [wrap_sub1, Nat.add_sub_cancel, idx_at, dget_at, less_val, less_lt]
    cases h2 : ltX d[j + 1]! d[j]!
    · simp only [Bool.not_false, if_true]
    · have e1 := swapL hj hj'
      simp only [dget_at hj, dget_at hj'] at e1
      simp only [Bool.not_true, Bool.false_eq_true, if_false, e1]
      exact ih _ n (by rw [size_swp]; omega) (by rw [size_swp]; omega) (by omega)

theorem partInsL_up (a b i s : Nat) : ∀ (k j : Nat) (d : Array EL) (n : Nat), b - j = k → 1 ≤ j → b ≤ d.size → d.size < 4294967296 → k < n →
    iterO partInsL_s3 n ((rep d), (a : Int), (b : Int), (i : Int), (s : Int), (j : Int), ()) = some (.inl ((rep (shiftUp ltX b j d)), (a : Int), (b : Int), (i : Int), (s : Int), ())) := by
  intro k
  induction k using Nat.strongRecOn with
  | _ k ih =>
  intro j d n hk h1 hb hs hn
  obtain ⟨n, rfl⟩ : ∃ k, n = k + 1 := ⟨n - 1, by omega⟩
  rw [shiftUp, iterO, partInsL_s3]
  simp only [ilt_nat]
  by_cases h : j < b
  · have i0 : j < d.size := by omega
    have i1 : j - 1 < d.size := by omega
    simp (disch := omega) only [h, decide_true, if_true, wrap_sub1, wrap_add1, idx_at, dget_at, less_val, less_lt]
    cases h2 : ltX d[j]! d[j - 1]!
    · simp only [Bool.not_false, if_true]
    · have e1 := swapL i0 i1
      simp only [dget_at i0, dget_at i1] at e1
      simp only [Bool.not_true, Bool.false_eq_true, if_false, e1]
      exact ih (b - (j + 1)) (by omega) (j + 1) _ n rfl (by omega) (by rw [size_swp]; omega) (by rw [size_swp]; omega) (by omega)
  · simp only [h, decide_false, if_false]

theorem size_shiftDown : ∀ (j : Nat) (d : Array EL), (shiftDown ltX j d).size = d.size := by
  intro j
  induction j with
  | zero => intro d; rfl
  | succ j ih =>
    intro d
    rw [shiftDown]
    split
    · rfl
    · rw [ih, size_swp]
theorem size_shiftUp (b : Nat) : ∀ (k j : Nat) (d : Array EL), b - j = k → (shiftUp ltX b j d).size = d.size := by
  intro k
  induction k using Nat.strongRecOn with
  | _ k ih =>
  intro j d hk
  rw [shiftUp]
  split
  · split
    · rfl
    · rw [ih (b - (j + 1)) (by omega) (j + 1) _ rfl, size_swp]
  · rfl

theorem partInsL_loop (a b : Nat) (hab : a < b) : ∀ (k i s : Nat) (d : Array EL) (n : Nat), s + k = 5 → a + 1 ≤ i → i ≤ b → b ≤ d.size → d.size < 4294967296 → k < n →
    iterO partInsL_s0 n ((rep d), (a : Int), (b : Int), (i : Int), (s : Int), ()) = some (.inl ((rep (partialIns ltX a b k i d).1), (partialIns ltX a b k i d).2, ())) ∨
    ((partialIns ltX a b k i d).2 = false ∧ iterO partInsL_s0 n ((rep d), (a : Int), (b : Int), (i : Int), (s : Int), ()) = some (.inr (.inl ((rep (partialIns ltX a b k i d).1), ())))) := by
  intro k
  induction k with
  | zero =>
    intro i s d n hk h1 hi hb hs hn
    obtain ⟨n, rfl⟩ : ∃ k, n = k + 1 := ⟨n - 1, by omega⟩
    rw [iterO, partInsL_s0, ilt_eq, decide_eq_false (by omega)]
    exact .inr ⟨rfl, rfl⟩
  | succ k ih =>
    intro i s d n hk h1 hi hb hs hn
    have hm : 4294967296 < many := by simp only [many]; omega
    have es : IntKind.wrap .i64 ((s : Int) + 1) = ((s + 1 : Nat) : Int) := wrap_add1 (by omega)
    obtain ⟨n, rfl⟩ : ∃ k, n = k + 1 := ⟨n - 1, by omega⟩
    rw [iterO, partInsL_s0, ilt_eq, decide_eq_true (by omega), partialIns]
    simp only [iterL_eq, partInsL_scan d a b s hb hs (b - i) i many rfl (by omega) hi (by omega)]
    have hsc := scanSorted_bounds d b _ i rfl hi
    generalize scanSorted ltX d b i = i2 at *
    simp only [ieq_nat]
    by_cases h2 : i2 = b
    · simp only [h2, decide_true, if_true, true_or]
    · simp (disch := omega) only [h2, decide_false, if_false, wrap_sub, ilt_eq, ile_eq]
      by_cases h3 : b - a < 50
      · rw [if_pos h3, decide_eq_true (by omega)]
        exact .inl rfl
      · have i0 : i2 < d.size := by omega
        have i1 : i2 - 1 < d.size := by omega
        rw [if_neg h3, decide_eq_false (by omega)]
        simp (disch := omega) only [wrap_sub1, wrap_add1, idx_at i0, idx_at i1, (swapL i0 i1).1, (swapL i0 i1).2]
        have hsz := size_swp d i2 (i2 - 1)
        generalize swp d i2 (i2 - 1) = d2 at *
        by_cases h4 : i2 - a ≥ 2
        · rw [if_pos h4, decide_eq_true (show (2 : Int) ≤ ((i2 - a : Nat) : Int) by omega)]
          simp only [partInsL_down a b i2 s (i2 - 1) d2 many (by omega) (by omega) (by omega)]
          have hsz2 := size_shiftDown (i2 - 1) d2
          generalize shiftDown ltX (i2 - 1) d2 = d3 at *
          simp (disch := omega) only [wrap_sub, wrap_add1]
          by_cases h5 : b - i2 ≥ 2
          · rw [if_pos h5, decide_eq_true (show (2 : Int) ≤ ((b - i2 : Nat) : Int) by omega)]
            simp only [partInsL_up a b i2 s _ (i2 + 1) d3 many rfl (by omega) (by omega) (by omega) (by omega)]
            simp only [es]
            exact ih i2 (s + 1) (shiftUp ltX b (i2 + 1) d3) n (by omega) (by omega) (by omega) (by rw [size_shiftUp b (b - (i2 + 1)) (i2 + 1) _ rfl]; omega) (by rw [size_shiftUp b (b - (i2 + 1)) (i2 + 1) _ rfl]; omega) (by omega)
          · rw [if_neg h5, decide_eq_false (show ¬ (2 : Int) ≤ ((b - i2 : Nat) : Int) by omega)]
            simp only [es]
            exact ih i2 (s + 1) d3 n (by omega) (by omega) (by omega) (by omega) (by omega) (by omega)
        · rw [if_neg h4, decide_eq_false (show ¬ (2 : Int) ≤ ((i2 - a : Nat) : Int) by omega)]
          by_cases h5 : b - i2 ≥ 2
          · rw [if_pos h5, decide_eq_true (show (2 : Int) ≤ ((b - i2 : Nat) : Int) by omega)]
            simp only [partInsL_up a b i2 s _ (i2 + 1) d2 many rfl (by omega) (by omega) (by omega) (by omega)]
            simp only [es]
            exact ih i2 (s + 1) (shiftUp ltX b (i2 + 1) d2) n (by omega) (by omega) (by omega) (by rw [size_shiftUp b (b - (i2 + 1)) (i2 + 1) _ rfl]; omega) (by rw [size_shiftUp b (b - (i2 + 1)) (i2 + 1) _ rfl]; omega) (by omega)
          · rw [if_neg h5, decide_eq_false (show ¬ (2 : Int) ≤ ((b - i2 : Nat) : Int) by omega)]
            simp only [es]
            exact ih i2 (s + 1) d2 n (by omega) (by omega) (by omega) (by omega) (by omega) (by omega)

theorem partInsL_val (d : Array EL) (a b : Nat) (hab : a < b) (hb : b ≤ d.size) (hs : d.size < 4294967296) :
    partInsL ((rep d), (a : Int), (b : Int), ()) = some ((rep (partialInsertionSort ltX d a b).1), (partialInsertionSort ltX d a b).2, ()) := by
  have hm : 4294967296 < many := by simp only [many]; omega
  rw [partInsL_eq, partInsL_d, partialInsertionSort]
  simp (disch := omega) only [wrap_add1, iterL_eq]
  have h := partInsL_loop a b hab 5 (a + 1) 0 d many rfl (Nat.le_refl _) (by omega) hb hs (by omega)
  rcases h with h | ⟨h0, h⟩
  · have h' : iterO partInsL_s0 many ((rep d), (a : Int), (b : Int), ((a + 1 : Nat) : Int), (0 : Int), ()) = _ := h
    rw [h']
  · have h' : iterO partInsL_s0 many ((rep d), (a : Int), (b : Int), ((a + 1 : Nat) : Int), (0 : Int), ()) = _ := h
    rw [h', h0]

/- the pivot: of it only its place is told -/
theorem order2L_val (d : Array EL) (a b : Nat) (s : Int) (ha : a < d.size) (hb : b < d.size) :
    ∃ s' p q, order2L ((rep d), (a : Int), (b : Int), s, ()) = some ((rep d), s', ((p : Nat) : Int), ((q : Nat) : Int), ()) ∧ (p = a ∧ q = b ∨ p = b ∧ q = a) := by
  rw [order2L_eq, order2L_d]
  simp only [idx_at ha, idx_at hb, dget_at ha, dget_at hb, less_val, less_lt]
  cases ltX d[b]! d[a]!
  · exact ⟨_, a, b, rfl, .inl ⟨rfl, rfl⟩⟩
  · exact ⟨_, b, a, rfl, .inr ⟨rfl, rfl⟩⟩

theorem medianL_val (d : Array EL) (a b c : Nat) (s : Int) (ha : a < d.size) (hb : b < d.size) (hc : c < d.size) :
    ∃ s' p, medianL ((rep d), (a : Int), (b : Int), (c : Int), s, ()) = some ((rep d), s', ((p : Nat) : Int), ()) ∧ (p = a ∨ p = b ∨ p = c) := by
  rw [medianL_eq, medianL_d]
  obtain ⟨s1, p1, q1, e1, h1⟩ := order2L_val d a b s ha hb
  simp only [e1]
  obtain ⟨s2, p2, q2, e2, h2⟩ := order2L_val d q1 c s1 (by omega) hc
  simp only [e2]
  obtain ⟨s3, p3, q3, e3, h3⟩ := order2L_val d p1 p2 s2 (by omega) (by omega)
  simp only [e3]
  exact ⟨_, q3, rfl, by omega⟩

theorem medAdjL_val (d : Array EL) (a : Nat) (s : Int) (h1 : 1 ≤ a) (ha : a + 1 < d.size) (hs : d.size < 4294967296) :
    ∃ s' p, medAdjL ((rep d), (a : Int), s, ()) = some ((rep d), s', ((p : Nat) : Int), ()) ∧ a ≤ p + 1 ∧ p ≤ a + 1 := by
  rw [medAdjL_eq, medAdjL_d]
  simp (disch := omega) only [wrap_sub1, wrap_add1]
  obtain ⟨s1, p1, e1, h1⟩ := medianL_val d (a - 1) a (a + 1) s (by omega) (by omega) ha
  simp only [e1]
  exact ⟨_, p1, rfl, by omega⟩

theorem pivotL_val (d : Array EL) (a b : Nat) (hab : a + 8 ≤ b) (hb : b ≤ d.size) (hs : d.size < 4294967296) :
    ∃ p h, pivotL ((rep d), (a : Int), (b : Int), ()) = some ((rep d), ((p : Nat) : Int), h, ()) ∧ a ≤ p ∧ p < b := by
  rw [pivotL_eq, pivotL_d]
  simp (disch := omega) only [wrap_sub, quo_4, wrap_mul1, wrap_mul2, wrap_mul3, wrap_add, ile_eq]
  rw [decide_eq_true (show (8 : Int) ≤ ((b - a : Nat) : Int) by omega)]
  simp only []
  by_cases h : 50 ≤ b - a
  · rw [decide_eq_true (show (50 : Int) ≤ ((b - a : Nat) : Int) by omega)]
    simp only []
    obtain ⟨s1, p1, e1, h1⟩ := medAdjL_val d (a + (b - a) / 4 * 1) 0 (by omega) (by omega) hs
    simp only [e1]
    obtain ⟨s2, p2, e2, h2⟩ := medAdjL_val d (a + (b - a) / 4 * 2) s1 (by omega) (by omega) hs
    simp only [e2]
    obtain ⟨s3, p3, e3, h3⟩ := medAdjL_val d (a + (b - a) / 4 * 3) s2 (by omega) (by omega) hs
    simp only [e3]
    obtain ⟨s4, p4, e4, h4⟩ := medianL_val d p1 p2 p3 s3 (by omega) (by omega) (by omega)
    simp only [e4]
    cases ieq s4 0
    · cases ieq s4 12
      · exact ⟨p4, _, rfl, by omega, by omega⟩
      · exact ⟨p4, _, rfl, by omega, by omega⟩
    · exact ⟨p4, _, rfl, by omega, by omega⟩
  · rw [decide_eq_false (show ¬ (50 : Int) ≤ ((b - a : Nat) : Int) by omega)]
    simp only []
    obtain ⟨s4, p4, e4, h4⟩ := medianL_val d (a + (b - a) / 4 * 1) (a + (b - a) / 4 * 2) (a + (b - a) / 4 * 3) 0 (by omega) (by omega) (by omega)
    simp only [e4]
    cases ieq s4 0
    · cases ieq s4 12
      · exact ⟨p4, _, rfl, by omega, by omega⟩
      · exact ⟨p4, _, rfl, by omega, by omega⟩
    · exact ⟨p4, _, rfl, by omega, by omega⟩
end Go.Pev.Pl.SL
end
section
/- Bits: how long a number is. -/
namespace Go.Pev.Pl
open Go.Sort
set_option maxRecDepth 100000
theorem lenTab_ok : (List.range 256).all (fun k => match lenTab[k]? with
    | some v => decide (0 ≤ v) && (decide (v ≤ 8) && decide (2 ^ v.toNat ≤ max 1 (2 * k)))
    | none => false) = true := by decide +kernel
theorem lenTab_at {k : Nat} (h : k < 256) : ∃ v : Nat, idx lenTab (k : Int) = some (v : Int) ∧ v ≤ 8 ∧ 2 ^ v ≤ max 1 (2 * k) := by
  have := List.all_eq_true.1 lenTab_ok k (List.mem_range.2 h)
  rw [idx_eq, idxR, if_neg (by omega), Int.toNat_natCast]
  cases e : lenTab[k]? with
  | none => rw [e] at this; cases this
  | some v =>
    rw [e] at this
    simp only [Bool.and_eq_true, decide_eq_true_eq] at this
    exact ⟨v.toNat, by rw [Int.toNat_of_nonneg this.1], by omega, this.2.2⟩
theorem shr_nat (n s : Nat) (h : s ≤ 64) : shr? .u64 (n : Int) (s : Int) = some ((n / 2 ^ s : Nat) : Int) := by
  rw [shr_eq, shrR, if_neg (by omega), Int.toNat_natCast, show min s (IntKind.bits .u64) = s from Nat.min_eq_left h, Int.fdiv_eq_ediv_of_nonneg _ (Int.pow_nonneg (by omega))]
  rfl
theorem u8_in {n : Int} (h : 0 ≤ n ∧ n ≤ 255) : IntKind.wrap .u8 n = n := IntWalk.u8_in n h
theorem u64_in {n : Int} (h : 0 ≤ n ∧ n ≤ 18446744073709551615) : IntKind.wrap .u64 n = n := IntWalk.u64_in n h
theorem len64_val (n : Nat) (hn : n < 4294967296) : ∃ v : Nat, len64 ((n : Int), ()) = some ((v : Int), ()) ∧ v ≤ 32 ∧ 2 ^ v ≤ max 1 (2 * n) := by
  rw [len64_eq, len64_d, ile_eq, decide_eq_false (by omega)]
  simp only [ile_eq]
  have key : ∀ (s m : Nat), s ≤ 24 → m < 256 → m * 2 ^ s ≤ n → (s = 0 ∨ 1 ≤ m) → ∃ v : Nat, idx lenTab (m : Int) = some (v : Int) ∧ v ≤ 8 ∧ 2 ^ (s + v) ≤ max 1 (2 * n) := by
    intro s m hs hm hle h1
    obtain ⟨v, e, h8, hp⟩ := lenTab_at hm
    refine ⟨v, e, h8, ?_⟩
    rcases h1 with rfl | h1
    · rw [Nat.zero_add]; simp at hle; omega
    · have h2 : 2 ^ v ≤ 2 * m := by omega
      have h3 : 2 ^ (s + v) ≤ 2 * (m * 2 ^ s) := by
        rw [Nat.pow_add, Nat.mul_comm (2 ^ s), ← Nat.mul_assoc]
        exact Nat.mul_le_mul_right _ h2
      omega
  by_cases h1 : 65536 ≤ n
  · rw [decide_eq_true (show (65536 : Int) ≤ (n : Int) by omega)]
    have e16 : shr? .u64 (n : Int) 16 = some ((n / 65536 : Nat) : Int) := shr_nat n 16 (by omega)
    simp only [e16]
    by_cases h2 : 256 ≤ n / 65536
    · rw [decide_eq_true (show (256 : Int) ≤ ((n / 65536 : Nat) : Int) by omega)]
      have e8 : shr? .u64 ((n / 65536 : Nat) : Int) 8 = some ((n / 65536 / 256 : Nat) : Int) := shr_nat _ 8 (by omega)
      obtain ⟨v, e, h8, hp⟩ := key 24 (n / 65536 / 256) (by omega) (by omega) (by omega) (by omega)
      simp only [e8]
      rw [u8_in (by omega)]
      simp only [e]
      refine ⟨24 + v, ?_, by omega, hp⟩
      rw [wrap_in (n := 0 + 16) (by omega), wrap_in (n := (0 : Int) + 16 + 8) (by omega), wrap_in (n := (v : Int)) (by omega), wrap_in (by omega)]
      congr 2
    · rw [decide_eq_false (show ¬ (256 : Int) ≤ ((n / 65536 : Nat) : Int) by omega)]
      obtain ⟨v, e, h8, hp⟩ := key 16 (n / 65536) (by omega) (by omega) (by omega) (by omega)
      simp only []
      rw [u8_in (by omega)]
      simp only [e]
      refine ⟨16 + v, ?_, by omega, hp⟩
      rw [wrap_in (n := 0 + 16) (by omega), wrap_in (n := (v : Int)) (by omega), wrap_in (by omega)]
      congr 2
  · rw [decide_eq_false (show ¬ (65536 : Int) ≤ (n : Int) by omega)]
    by_cases h2 : 256 ≤ n
    · have e8 : shr? .u64 (n : Int) 8 = some ((n / 256 : Nat) : Int) := shr_nat n 8 (by omega)
      obtain ⟨v, e, h8, hp⟩ := key 8 (n / 256) (by omega) (by omega) (by omega) (by omega)
      simp only []
      rw [decide_eq_true (show (256 : Int) ≤ (n : Int) by omega)]
      simp only [e8]
      rw [u8_in (by omega)]
      simp only [e]
      refine ⟨8 + v, ?_, by omega, hp⟩
      rw [wrap_in (n := 0 + 8) (by omega), wrap_in (n := (v : Int)) (by omega), wrap_in (by omega)]
      congr 2
    · obtain ⟨v, e, h8, hp⟩ := key 0 n (by omega) (by omega) (by omega) (by omega)
      simp only []
      rw [decide_eq_false (show ¬ (256 : Int) ≤ (n : Int) by omega)]
      simp only []
      rw [u8_in (by omega)]
      simp only [e]
      refine ⟨0 + v, ?_, by omega, hp⟩
      rw [wrap_in (n := (v : Int)) (by omega), wrap_in (by omega)]
      congr 2

theorem bitsLen_val (n : Nat) (hn : n < 4294967296) : ∃ v : Nat, bitsLen ((n : Int), ()) = some ((v : Int), ()) ∧ v ≤ 32 ∧ 2 ^ v ≤ max 1 (2 * n) := by
  rw [bitsLen_eq, bitsLen_d]
  obtain ⟨v, e, h⟩ := len64_val n hn
  simp only [e]
  exact ⟨v, rfl, h⟩

theorem nextPow_val (n : Nat) (h1 : 1 ≤ n) (hn : n < 4294967296) : ∃ m : Nat, nextPow ((n : Int), ()) = some ((m : Int), ()) ∧ 1 ≤ m ∧ m ≤ 2 * n := by
  rw [nextPow_eq, nextPow_d, u64_in (by omega)]
  obtain ⟨v, e, h32, hp⟩ := bitsLen_val n hn
  simp only [e]
  have e2 : shl? .u64 (1 : Int) (v : Int) = some ((2 ^ v : Nat) : Int) := by
    rw [shl_eq, shlR, if_neg (by omega), Int.toNat_natCast, show min v (IntKind.bits .u64) = v from Nat.min_eq_left (by show v ≤ 64; omega), Int.one_mul]
    have : 2 ^ v ≤ 2 ^ 32 := Nat.pow_le_pow_right (by omega) h32
    have h1 : 1 ≤ 2 ^ v := Nat.one_le_two_pow
    have e : ((2 : Int) ^ v) = ((2 ^ v : Nat) : Int) := by simp
    rw [e, u64_in (by constructor <;> omega)]
  simp only [e2]
  exact ⟨2 ^ v, rfl, Nat.one_le_two_pow, by omega⟩

theorem xorNext_val (r : Int) : ∃ r' y, xorNext (r, ()) = some (r', y, ()) := by
  rw [xorNext_eq, xorNext_d, shl_eq, shlR, if_neg (by omega)]
  simp only []
  rw [shr_eq, shrR, if_neg (by omega)]
  simp only []
  rw [shl_eq, shlR, if_neg (by omega)]
  exact ⟨_, _, rfl⟩

theorem other_le (y : Int) (m : Nat) (h1 : 1 ≤ m) (hm : m < 18446744073709551616) : ∃ o : Nat, IntKind.wrap .u64 ((BitVec.ofInt (IntKind.bits .u64) y &&& BitVec.ofInt (IntKind.bits .u64) (IntKind.wrap .u64 ((m : Int) - 1))).toNat) = (o : Int) ∧ o < m := by
  rw [u64_in (n := (m : Int) - 1) (by omega), show (m : Int) - 1 = ((m - 1 : Nat) : Int) by omega, BitVec.toNat_and]
  have h2 : (BitVec.ofInt (IntKind.bits .u64) ((m - 1 : Nat) : Int)).toNat = m - 1 := by
    rw [BitVec.ofInt_natCast, BitVec.toNat_ofNat]
    exact Nat.mod_eq_of_lt (by show m - 1 < 18446744073709551616; omega)
  rw [h2]
  have h3 : (BitVec.ofInt (IntKind.bits .u64) y).toNat &&& (m - 1) ≤ m - 1 := Nat.and_le_right
  exact ⟨_, u64_in (by omega), by omega⟩

end Go.Pev.Pl
end
section
namespace Go.Pev.Pl.SL
open Go.Sort
theorem breakL_loop (a b : Nat) (m : Nat) (h8 : a + 8 ≤ b) (hm1 : 1 ≤ m) (hm : m ≤ 2 * (b - a)) : ∀ (k t : Nat) (d : Array EL) (r : Int) (n : Nat), t + k = 3 → b ≤ d.size → d.size < 4294967296 → k < n →
    ∃ d' : Array EL, iterO breakL_s0 n ((rep d), (a : Int), ((b - a : Nat) : Int), r, (m : Int), ((a + (b - a) / 4 * 2 - 1 + t : Nat) : Int), ()) = some (.inl ((rep d'), ())) ∧ PermIn a b d d' := by
  intro k
  induction k with
  | zero =>
    intro t d r n hk hb hs hn
    obtain ⟨n, rfl⟩ : ∃ k, n = k + 1 := ⟨n - 1, by omega⟩
    rw [iterO, breakL_s0]
    simp (disch := omega) only [quo_4, wrap_mul2, wrap_add, wrap_add1, ile_nat]
    rw [decide_eq_false (by omega)]
    exact ⟨d, rfl, permIn_refl d a b⟩
  | succ k ih =>
    intro t d r n hk hb hs hn
    obtain ⟨n, rfl⟩ : ∃ k, n = k + 1 := ⟨n - 1, by omega⟩
    rw [iterO, breakL_s0]
    simp (disch := omega) only [quo_4, wrap_mul2, wrap_add, wrap_add1, ile_nat]
    rw [decide_eq_true (show a + (b - a) / 4 * 2 - 1 + t ≤ a + (b - a) / 4 * 2 + 1 by omega)]
    obtain ⟨r', y, e⟩ := xorNext_val r
    obtain ⟨o, e2, ho⟩ := other_le y m hm1 (by omega)
    simp only [e, e2]
    rw [wrap_in (n := (o : Int)) (by omega)]
    simp only [ile_nat]
    have i0 : a + (b - a) / 4 * 2 - 1 + t < d.size := by omega
    have fin : ∀ q : Nat, a ≤ q → q < b → ∃ d' : Array EL, iterO breakL_s0 n ((rep (swp d (a + (b - a) / 4 * 2 - 1 + t) q)), (a : Int), ((b - a : Nat) : Int), r', (m : Int), ((a + (b - a) / 4 * 2 - 1 + t + 1 : Nat) : Int), ()) = some (.inl ((rep d'), ())) ∧ PermIn a b d d' := by
      intro q hq1 hq2
      obtain ⟨d', e', hp⟩ := ih (t + 1) (swp d (a + (b - a) / 4 * 2 - 1 + t) q) r' n (by omega) (by rw [size_swp]; omega) (by rw [size_swp]; omega) (by omega)
      exact ⟨d', e', permIn_trans _ _ _ a b (swp_permIn d a b _ q (by omega) (by omega) hq1 hq2 hb) hp⟩
    by_cases h : b - a ≤ o
    · have i1 : a + (o - (b - a)) < d.size := by omega
      simp (disch := omega) only [h, decide_true, wrap_sub, wrap_add, wrap_add1, idx_at i0, idx_at i1, (swapL i0 i1).1, (swapL i0 i1).2]
      exact fin _ (by omega) (by omega)
    · have i1 : a + o < d.size := by omega
      simp (disch := omega) only [h, decide_false, wrap_sub, wrap_add, wrap_add1, idx_at i0, idx_at i1, (swapL i0 i1).1, (swapL i0 i1).2]
      exact fin _ (by omega) (by omega)

theorem breakL_val (d : Array EL) (a b : Nat) (hab : a ≤ b) (hb : b ≤ d.size) (hs : d.size < 4294967296) :
    ∃ d' : Array EL, breakL ((rep d), (a : Int), (b : Int), ()) = some ((rep d'), ()) ∧ PermIn a b d d' := by
  have hm : 4294967296 < many := by simp only [many]; omega
  rw [breakL_eq, breakL_d]
  simp (disch := omega) only [wrap_sub, ile_eq]
  by_cases h : 8 ≤ b - a
  · rw [decide_eq_true (show (8 : Int) ≤ ((b - a : Nat) : Int) by omega)]
    obtain ⟨m, e, h1, h2⟩ := nextPow_val (b - a) (by omega) (by omega)
    simp only [e]
    rw [u64_in (n := ((b - a : Nat) : Int)) (by omega)]
    simp (disch := omega) only [quo_4, wrap_mul2, wrap_add, wrap_sub1, iterL_eq]
    obtain ⟨d', e2, hp⟩ := breakL_loop a b m (by omega) h1 h2 3 0 d ((b - a : Nat) : Int) many rfl hb hs (by omega)
    rw [Nat.add_zero] at e2
    simp only [e2]
    exact ⟨d', rfl, hp⟩
  · rw [decide_eq_false (show ¬ (8 : Int) ≤ ((b - a : Nat) : Int) by omega)]
    exact ⟨d, rfl, permIn_refl d a b⟩
end Go.Pev.Pl.SL
end
section
namespace Go.Pev.Pl.SL
open Go.Sort
abbrev PdqSt := List (List Int) × Int × Int × Int × Bool × Bool × Unit
abbrev PdqOutT := PdqSt ⊕ (List (List Int) × Unit) ⊕ Unit
noncomputable section
def pdqTail (self : (List (List Int) × Int × Int × Int × Unit) → Option ((List (List Int) × Unit))) (y7 : List (List Int)) (a1 a2 p l : Int) (a4 a5 : Bool) : Option PdqOutT :=
  match (ilt (0 : Int) a1) with
  | true => match idx y7 (IntKind.wrap .i64 (a1 - (1 : Int))) with
    | none => none
    | some x9 => match idx y7 p with
      | none => none
      | some x10 => match with1 ((dget y7 (dnat (IntKind.wrap .i64 (a1 - (1 : Int)))) ([] : List Int)), (dget y7 (dnat p) ([] : List Int)), ()) with
        | none => none
        | some (y11, _) => match (!(ilt y11 (0 : Int))) with
          | true => match partEqL (y7, a1, a2, p, ()) with
            | none => none
            | some (y12, y13, _) => some (.inl (y12, y13, a2, l, a4, a5, ()))
          | false => match partL (y7, a1, a2, p, ()) with
            | none => none
            | some (y14, y15, y16, _) => match quo? .i64 (IntKind.wrap .i64 (a2 - a1)) (8 : Int) with
              | none => none
              | some x17 => match (ilt (IntKind.wrap .i64 (y15 - a1)) (IntKind.wrap .i64 (a2 - y15))) with
                | true => match self (y14, a1, y15, l, ()) with
                  | none => none
                  | some (y18, _) => some (.inl (y18, (IntKind.wrap .i64 (y15 + (1 : Int))), a2, l, (ile x17 (IntKind.wrap .i64 (y15 - a1))), y16, ()))
                | false => match self (y14, (IntKind.wrap .i64 (y15 + (1 : Int))), a2, l, ()) with
                  | none => none
                  | some (y19, _) => some (.inl (y19, a1, y15, l, (ile x17 (IntKind.wrap .i64 (a2 - y15))), y16, ()))
  | false => match partL (y7, a1, a2, p, ()) with
    | none => none
    | some (y20, y21, y22, _) => match quo? .i64 (IntKind.wrap .i64 (a2 - a1)) (8 : Int) with
      | none => none
      | some x23 => match (ilt (IntKind.wrap .i64 (y21 - a1)) (IntKind.wrap .i64 (a2 - y21))) with
        | true => match self (y20, a1, y21, l, ()) with
          | none => none
          | some (y24, _) => some (.inl (y24, (IntKind.wrap .i64 (y21 + (1 : Int))), a2, l, (ile x23 (IntKind.wrap .i64 (y21 - a1))), y22, ()))
        | false => match self (y20, (IntKind.wrap .i64 (y21 + (1 : Int))), a2, l, ()) with
          | none => none
          | some (y25, _) => some (.inl (y25, a1, y21, l, (ile x23 (IntKind.wrap .i64 (a2 - y21))), y22, ()))
def pdqEnd (self : (List (List Int) × Int × Int × Int × Unit) → Option ((List (List Int) × Unit))) (y6 : List (List Int)) (a1 a2 p h l : Int) (a4 a5 : Bool) : Option PdqOutT :=
  match a4 with
  | true => match a5 with
    | true => match (ieq h (1 : Int)) with
      | true => match partInsL (y6, a1, a2, ()) with
        | none => none
        | some (y7, y8, _) => match y8 with
          | true => some (.inr (.inl (y7, ())))
          | false => pdqTail self y7 a1 a2 p l a4 a5
      | false => pdqTail self y6 a1 a2 p l a4 a5
    | false => pdqTail self y6 a1 a2 p l a4 a5
  | false => pdqTail self y6 a1 a2 p l a4 a5
def pdqMid (self : (List (List Int) × Int × Int × Int × Unit) → Option ((List (List Int) × Unit))) (y2 : List (List Int)) (a1 a2 l : Int) (a4 a5 : Bool) : Option PdqOutT :=
  match pivotL (y2, a1, a2, ()) with
  | none => none
  | some (y3, y4, y5, _) => match (ieq y5 (2 : Int)) with
    | true => match revL (y3, a1, a2, ()) with
      | none => none
      | some (y6, _) => pdqEnd self y6 a1 a2 (IntKind.wrap .i64 ((IntKind.wrap .i64 (a2 - (1 : Int))) - (IntKind.wrap .i64 (y4 - a1)))) 1 l a4 a5
    | false => pdqEnd self y3 a1 a2 y4 y5 l a4 a5
def pdqRound (self : (List (List Int) × Int × Int × Int × Unit) → Option ((List (List Int) × Unit))) : PdqSt → Option PdqOutT := fun (a0, a1, a2, a3, a4, a5, _) =>
  match (ile (IntKind.wrap .i64 (a2 - a1)) (12 : Int)) with
  | true => match insL (a0, a1, a2, ()) with
    | none => none
    | some (y0, _) => some (.inr (.inl (y0, ())))
  | false => match (ieq a3 (0 : Int)) with
    | true => match heapL (a0, a1, a2, ()) with
      | none => none
      | some (y1, _) => some (.inr (.inl (y1, ())))
    | false => match (!a4) with
      | true => match breakL (a0, a1, a2, ()) with
        | none => none
        | some (y2, _) => pdqMid self y2 a1 a2 (IntKind.wrap .i64 (a3 - (1 : Int))) a4 a5
      | false => pdqMid self a0 a1 a2 a3 a4 a5
theorem pdqL_s0_round : pdqL_s0 = pdqRound := rfl
end

/-- what a round of the loop may end in -/
def PdqOut (d : Array EL) (a b : Nat) : PdqOutT → Prop
  | .inl (xs, x, y, l, _, _, _) => ∃ (e : Array EL) (i j : Nat), xs = (rep e) ∧ x = (i : Int) ∧ y = (j : Int) ∧ 0 ≤ l ∧ l ≤ 100 ∧ i ≤ j ∧ j ≤ e.size ∧ e.size = d.size ∧ j - i < b - a ∧ Below ltX i j e ∧
      ∀ R, PermIn i j e R → SortedIn ltX i j R → PermIn a b d R ∧ SortedIn ltX a b R
  | .inr (.inl (xs, _)) => ∃ R : Array EL, xs = (rep R) ∧ PermIn a b d R ∧ SortedIn ltX a b R
  | .inr (.inr _) => False

def PdqCalls (self : (List (List Int) × Int × Int × Int × Unit) → Option ((List (List Int) × Unit))) (m : Nat) : Prop :=
  ∀ (d : Array EL) (a b : Nat) (l : Int), a ≤ b → b ≤ d.size → d.size < 4294967296 → 0 ≤ l → l ≤ 100 → Below ltX a b d → 2 * (b - a) < m →
    ∃ R : Array EL, self ((rep d), (a : Int), (b : Int), l, ()) = some ((rep R), ()) ∧ PermIn a b d R ∧ SortedIn ltX a b R

section
variable {self : (List (List Int) × Int × Int × Int × Unit) → Option ((List (List Int) × Unit))} {d : Array EL} {a b : Nat} {l : Int}
theorem pdq_part (hself : PdqCalls self (b - a)) (hb : b ≤ d.size) (hs : d.size < 4294967296) (hl : 0 ≤ l ∧ l ≤ 100)
    {d3 : Array EL} {p : Nat} (P3 : PermIn a b d d3) (B3 : Below ltX a b d3) (hp1 : a ≤ p) (hp2 : p < b) :
    ∃ o, (match partL ((rep d3), (a : Int), (b : Int), (p : Int), ()) with
    | none => none
    | some (y20, y21, y22, _) => match quo? .i64 (IntKind.wrap .i64 ((b : Int) - (a : Int))) (8 : Int) with
      | none => none
      | some x23 => match (ilt (IntKind.wrap .i64 (y21 - (a : Int))) (IntKind.wrap .i64 ((b : Int) - y21))) with
        | true => match self (y20, (a : Int), y21, l, ()) with
          | none => none
          | some (y24, _) => some ((.inl (y24, (IntKind.wrap .i64 (y21 + (1 : Int))), (b : Int), l, (ile x23 (IntKind.wrap .i64 (y21 - (a : Int)))), y22, ())) : PdqOutT)
        | false => match self (y20, (IntKind.wrap .i64 (y21 + (1 : Int))), (b : Int), l, ()) with
          | none => none
          | some (y25, _) => some (.inl (y25, (a : Int), y21, l, (ile x23 (IntKind.wrap .i64 ((b : Int) - y21))), y22, ()))) = some o ∧ PdqOut d a b o := by
  have b3 : b ≤ d3.size := by rw [P3.1]; exact hb
  have s3 : d3.size < 4294967296 := by rw [P3.1]; exact hs
  rw [partL_val d3 a b p hp1 hp2 b3 s3]
  rcases hx : partition ltX d3 a b p with ⟨mid, ap, d4⟩
  obtain ⟨g1, g2, hs4, hBa, hBr, hleft, hright⟩ := round_part swoX (partition_holds _) hp1 hp2 b3 B3 hx
  simp (disch := omega) only [wrap_sub, wrap_add1, quo_8, ilt_nat]
  have b4 : b ≤ d4.size := by omega
  by_cases h : mid - a < b - mid
  · obtain ⟨L, e, l1, l2⟩ := hself d4 a mid l g1 (by omega) (by omega) hl.1 hl.2 hBa (by omega)
    simp only [h, decide_true, e]
    obtain ⟨hBL, hfin⟩ := hleft _ l1 l2
    refine ⟨_, rfl, L, mid + 1, b, rfl, rfl, rfl, hl.1, hl.2, by omega, by rw [l1.1]; exact b4, by rw [l1.1, hs4, P3.1], by omega, hBL, fun R r1 r2 => ?_⟩
    obtain ⟨q1, q2⟩ := hfin R r1 r2
    exact ⟨permIn_trans _ _ _ a b P3 q1, q2⟩
  · obtain ⟨L, e, l1, l2⟩ := hself d4 (mid + 1) b l (by omega) (by omega) (by omega) hl.1 hl.2 hBr (by omega)
    simp only [h, decide_false, e]
    obtain ⟨hBL, hfin⟩ := hright _ l1 l2
    refine ⟨_, rfl, L, a, mid, rfl, rfl, rfl, hl.1, hl.2, by omega, by rw [l1.1]; omega, by rw [l1.1, hs4, P3.1], by omega, hBL, fun R r1 r2 => ?_⟩
    obtain ⟨q1, q2⟩ := hfin R r1 r2
    exact ⟨permIn_trans _ _ _ a b P3 q1, q2⟩

theorem pdq_tail (hself : PdqCalls self (b - a)) (hb : b ≤ d.size) (hs : d.size < 4294967296) (hl : 0 ≤ l ∧ l ≤ 100)
    {d3 : Array EL} {p : Nat} (wb wp : Bool) (P3 : PermIn a b d d3) (B3 : Below ltX a b d3) (hp1 : a ≤ p) (hp2 : p < b) :
    ∃ o, pdqTail self (rep d3) (a : Int) (b : Int) (p : Int) l wb wp = some o ∧ PdqOut d a b o := by
  have b3 : b ≤ d3.size := by rw [P3.1]; exact hb
  have s3 : d3.size < 4294967296 := by rw [P3.1]; exact hs
  rw [pdqTail, ilt_eq]
  by_cases h0 : 0 < a
  · rw [decide_eq_true (by omega)]
    have i0 : a - 1 < d3.size := by omega
    have i1 : p < d3.size := by omega
    simp (disch := omega) only [wrap_sub1, idx_at, dget_at, less_val, less_lt]
    cases hc : ltX d3[a - 1]! d3[p]!
    · simp only [Bool.not_false]
      rw [partEqL_val d3 a b p hp1 hp2 b3 s3]
      rcases hx : partitionEqual ltX d3 a b p with ⟨mid, d4⟩
      obtain ⟨hm1, hm2, hs4, hB4, hfin⟩ := round_eq swoX (partitionEqual_holds _) h0 hp1 hp2 b3 B3 hc hx
      refine ⟨_, rfl, d4, mid, b, rfl, rfl, rfl, hl.1, hl.2, by omega, by omega, by rw [hs4, P3.1], by omega, hB4, fun R r1 r2 => ?_⟩
      obtain ⟨q1, q2⟩ := hfin R r1 r2
      exact ⟨permIn_trans _ _ _ a b P3 q1, q2⟩
    · simp only [Bool.not_true]
      exact pdq_part hself hb hs hl P3 B3 hp1 hp2
  · rw [decide_eq_false (by omega)]
    exact pdq_part hself hb hs hl P3 B3 hp1 hp2

theorem pdq_end (hself : PdqCalls self (b - a)) (hab : a < b) (hb : b ≤ d.size) (hs : d.size < 4294967296) (hl : 0 ≤ l ∧ l ≤ 100)
    {d3 : Array EL} {p : Nat} (h : Int) (wb wp : Bool) (P3 : PermIn a b d d3) (B3 : Below ltX a b d3) (hp1 : a ≤ p) (hp2 : p < b) :
    ∃ o, pdqEnd self (rep d3) (a : Int) (b : Int) (p : Int) h l wb wp = some o ∧ PdqOut d a b o := by
  have b3 : b ≤ d3.size := by rw [P3.1]; exact hb
  have s3 : d3.size < 4294967296 := by rw [P3.1]; exact hs
  unfold pdqEnd
  cases wb
  · exact pdq_tail hself hb hs hl _ _ P3 B3 hp1 hp2
  · cases wp
    · exact pdq_tail hself hb hs hl _ _ P3 B3 hp1 hp2
    · simp only []
      cases ieq h 1
      · exact pdq_tail hself hb hs hl _ _ P3 B3 hp1 hp2
      · simp only []
        rw [partInsL_val d3 a b hab b3 s3]
        obtain ⟨q1, q2⟩ := partialInsertionSort_holds (lt := ltX) swoX d3 a b hab b3 B3
        rcases hx : partialInsertionSort ltX d3 a b with ⟨d4, fin⟩
        rw [hx] at q1 q2
        have P4 : PermIn a b d d4 := permIn_trans _ _ _ a b P3 q1
        cases fin
        · exact pdq_tail hself hb hs hl _ _ P4 (B3.perm b3 q1) hp1 hp2
        · exact ⟨_, rfl, d4, rfl, P4, q2 rfl⟩

theorem pdq_mid (hself : PdqCalls self (b - a)) (hab : a + 8 ≤ b) (hb : b ≤ d.size) (hs : d.size < 4294967296) (hl : 0 ≤ l ∧ l ≤ 100)
    {d3 : Array EL} (wb wp : Bool) (P3 : PermIn a b d d3) (B3 : Below ltX a b d3) :
    ∃ o, pdqMid self (rep d3) (a : Int) (b : Int) l wb wp = some o ∧ PdqOut d a b o := by
  have b3 : b ≤ d3.size := by rw [P3.1]; exact hb
  have s3 : d3.size < 4294967296 := by rw [P3.1]; exact hs
  rw [pdqMid]
  obtain ⟨p, h, e, hp1, hp2⟩ := pivotL_val d3 a b hab b3 s3
  simp only [e]
  cases ieq h 2
  · exact pdq_end hself (by omega) hb hs hl h _ _ P3 B3 hp1 hp2
  · simp only [revL_val d3 a b (by omega) b3 s3]
    have q1 := reverseRange_holds (α := EL) d3 a b (by omega) b3
    simp (disch := omega) only [wrap_sub1, wrap_sub]
    exact pdq_end hself (by omega) hb hs hl 1 _ _ (permIn_trans _ _ _ a b P3 q1) (B3.perm b3 q1) (by omega) (by omega)

theorem pdq_round (hself : PdqCalls self (b - a)) (hab : a ≤ b) (hb : b ≤ d.size) (hs : d.size < 4294967296) (hl : 0 ≤ l ∧ l ≤ 100) (wb wp : Bool) (B : Below ltX a b d) :
    ∃ o, pdqL_s0 self ((rep d), (a : Int), (b : Int), l, wb, wp, ()) = some o ∧ PdqOut d a b o := by
  rw [pdqL_s0_round, pdqRound]
  simp (disch := omega) only [wrap_sub, ile_eq, ieq_eq]
  by_cases h12 : b - a ≤ 12
  · rw [decide_eq_true (show ((b - a : Nat) : Int) ≤ 12 by omega)]
    simp only [insL_val d a b hab hb hs]
    obtain ⟨q1, q2⟩ := insertionSort_holds (lt := ltX) swoX d a b hab hb
    exact ⟨_, rfl, _, rfl, q1, q2⟩
  · rw [decide_eq_false (show ¬ ((b - a : Nat) : Int) ≤ 12 by omega)]
    simp only []
    by_cases h0 : l = 0
    · subst h0
      simp only [BEq.rfl, heapL_val d a b (by omega) hb hs]
      obtain ⟨q1, q2⟩ := heapSort_holds (lt := ltX) swoX d a b hab hb
      exact ⟨_, rfl, _, rfl, q1, q2⟩
    · rw [show (l == 0) = false by simpa using h0]
      simp only []
      cases wb
      · obtain ⟨d', e, q1⟩ := breakL_val d a b hab hb hs
        simp only [Bool.not_false, e]
        rw [wrap_in (by omega)]
        exact pdq_mid hself (by omega) hb hs (by omega) _ _ q1 (B.perm hb q1)
      · simp only [Bool.not_true]
        exact pdq_mid hself (by omega) hb hs hl _ _ (permIn_refl d a b) B
end

theorem pdq_loop {self : (List (List Int) × Int × Int × Int × Unit) → Option ((List (List Int) × Unit))} {m : Nat} (hself : PdqCalls self m) : ∀ (k : Nat) (d : Array EL) (a b : Nat) (l : Int) (wb wp : Bool) (n : Nat), b - a = k → k ≤ m → a ≤ b → b ≤ d.size → d.size < 4294967296 → 0 ≤ l → l ≤ 100 → Below ltX a b d → k < n →
    ∃ R : Array EL, iterO (pdqL_s0 self) n ((rep d), (a : Int), (b : Int), l, wb, wp, ()) = some (.inl ((rep R), ())) ∧ PermIn a b d R ∧ SortedIn ltX a b R := by
  intro k
  induction k using Nat.strongRecOn with
  | _ k ih =>
  intro d a b l wb wp n hk hm hab hb hs hl1 hl2 B hn
  obtain ⟨n, rfl⟩ : ∃ k, n = k + 1 := ⟨n - 1, by omega⟩
  have hself' : PdqCalls self (b - a) := fun d a' b' l h1 h2 h3 h4 h5 h6 h7 => hself d a' b' l h1 h2 h3 h4 h5 h6 (by omega)
  obtain ⟨o, e, ho⟩ := pdq_round hself' hab hb hs ⟨hl1, hl2⟩ wb wp B
  rw [iterO, e]
  match o, ho with
  | .inl (xs, x, y, l', wb', wp', _), ho =>
    obtain ⟨e', i, j, rfl, rfl, rfl, g1, g2, g3, g4, g5, g6, g7, hfin⟩ := ho
    obtain ⟨R, e2, r1, r2⟩ := ih (j - i) (by omega) e' i j l' wb' wp' n rfl (by omega) g3 g4 (by omega) g1 g2 g7 (by omega)
    exact ⟨R, e2, hfin R r1 r2⟩
  | .inr (.inl (xs, _)), ho =>
    obtain ⟨R, rfl, r1, r2⟩ := ho
    exact ⟨R, rfl, r1, r2⟩

theorem pdq_calls : ∀ k : Nat, PdqCalls (pdqL_f (k + 1)) (2 ^ k) := by
  intro k
  have hmany : 4294967296 < many := by simp only [many]; omega
  induction k with
  | zero =>
    intro d a b l h1 h2 h3 h4 h5 h6 h7
    have : PdqCalls (pdqL_f 0) 0 := fun _ _ _ _ _ _ _ _ _ _ h => by omega
    obtain ⟨R, e, r1, r2⟩ := pdq_loop this (b - a) d a b l true true many rfl (by omega) h1 h2 h3 h4 h5 h6 (by omega)
    refine ⟨R, ?_, r1, r2⟩
    rw [pdqL_f, pdqL_d]
    simp only [iterL_eq, e]
  | succ k ih =>
    intro d a b l h1 h2 h3 h4 h5 h6 h7
    have hp : 2 ^ (k + 1) = 2 * 2 ^ k := by rw [Nat.pow_succ]; omega
    obtain ⟨R, e, r1, r2⟩ := pdq_loop ih (b - a) d a b l true true many rfl (by omega) h1 h2 h3 h4 h5 h6 (by omega)
    refine ⟨R, ?_, r1, r2⟩
    rw [pdqL_f, pdqL_d]
    simp only [iterL_eq, e]

/-- what the sort comes to: the same elements, by compare rising -/
theorem sort_val (xs : List (List Int)) (h : xs.length < 4294967296) (hok : ∀ x ∈ xs, ok x) : ∃ ys, sortL (xs, ()) = some (ys, ()) ∧ ys.Perm xs ∧ ys.Pairwise fun x y => lt y x = false := by
  obtain ⟨d, rfl⟩ : ∃ d : Array EL, xs = rep d := by
    refine ⟨(xs.attach.map fun x => ⟨x.val, hok x.val x.property⟩).toArray, ?_⟩
    simp [rep]
  have hl : (rep d).length = d.size := by simp [rep]
  rw [hl] at h
  rw [sortL_eq, sortL_d]
  rw [dlen_at, u64_in (by omega)]
  obtain ⟨v, e, hv, _⟩ := bitsLen_val d.size h
  simp only [e]
  obtain ⟨R, e2, r1, r2⟩ := pdq_calls 99 d 0 d.size (v : Int) (by omega) (by omega) h (by omega) (by omega) (.inl rfl) (by
    have : 2 ^ 99 = 633825300114114700748351602688 := by decide
    omega)
  have e3 : pdqL (rep d, (0 : Int), (d.size : Int), (v : Int), ()) = some (rep R, ()) := by rw [pdqL_eq]; exact e2
  refine ⟨rep R, by simp only [e3], ?_, ?_⟩
  · obtain ⟨hsz, _, hp⟩ := r1
    have e1 : R.extract 0 d.size = R := by rw [← hsz]; exact Array.extract_size
    rw [e1, Array.extract_size] at hp
    exact hp.map _
  · rw [rep, List.pairwise_map, List.pairwise_iff_getElem]
    intro i j hi hj hij
    have hi' : i < R.size := by simpa using hi
    have hj' : j < R.size := by simpa using hj
    have := r2 i j (Nat.zero_le _) hij (by rw [← r1.1]; omega)
    rw [getElem!_pos R j hj', getElem!_pos R i hi'] at this
    simpa [ltX] using this
end Go.Pev.Pl.SL
end
section
/- Rings put among others: by the document one after the other, by the program all, and sorted. -/
namespace Go.Pev.Pl
open Tok

def dropAt {α : Type} (P : Nat → Bool) : Nat → List α → List α
  | _, [] => []
  | i, x :: xs => if P i then dropAt P (i + 1) xs else x :: dropAt P (i + 1) xs
theorem dropAt_none {α : Type} (P : Nat → Bool) : ∀ (xs : List α) (s : Nat), (∀ k, s ≤ k → P k = false) → dropAt P s xs = xs := by
  intro xs
  induction xs with
  | nil => intro s _; rfl
  | cons x xs ih =>
    intro s h
    rw [dropAt, h s (Nat.le_refl _), ih (s + 1) fun k hk => h k (by omega)]
    rfl
theorem dropAt_one {α : Type} (P : Nat → Bool) (i : Nat) : ∀ (xs : List α) (s : Nat), s ≤ i → (∀ k, s ≤ k → P k = decide (k = i)) → dropAt P s xs = xs.eraseIdx (i - s) := by
  intro xs
  induction xs with
  | nil => intro s _ _; rfl
  | cons x xs ih =>
    intro s hs h
    rw [dropAt, h s (Nat.le_refl _)]
    by_cases e : s = i
    · subst e
      rw [dropAt_none P xs (s + 1) fun k hk => by rw [h k (by omega)]; simp; omega]
      simp
    · rw [ih (s + 1) (by omega) fun k hk => h k (by omega)]
      rw [decide_eq_false e, if_neg (by simp), show i - s = (i - (s + 1)) + 1 by omega, List.eraseIdx_cons_succ]
theorem dropAt_two {α : Type} (P : Nat → Bool) (i j : Nat) (hij : i < j) : ∀ (xs : List α) (s : Nat), s ≤ i → (∀ k, s ≤ k → P k = decide (k = i ∨ k = j)) → dropAt P s xs = (xs.eraseIdx (j - s)).eraseIdx (i - s) := by
  intro xs
  induction xs with
  | nil => intro s _ _; rfl
  | cons x xs ih =>
    intro s hs h
    rw [dropAt, h s (Nat.le_refl _)]
    by_cases e : s = i
    · subst e
      rw [dropAt_one P j xs (s + 1) (by omega) fun k hk => by rw [h k (by omega)]; exact decide_eq_decide.2 ⟨fun q => by omega, fun q => .inr q⟩]
      rw [decide_eq_true (.inl rfl), if_pos rfl, show j - s = (j - (s + 1)) + 1 by omega, List.eraseIdx_cons_succ, Nat.sub_self, List.eraseIdx_zero]
      rfl
    · rw [ih (s + 1) (by omega) fun k hk => h k (by omega)]
      rw [decide_eq_false (by omega), if_neg (by simp), show j - s = (j - (s + 1)) + 1 by omega, List.eraseIdx_cons_succ, show i - s = (i - (s + 1)) + 1 by omega, List.eraseIdx_cons_succ]

theorem dropAt_fold {α : Type} (P : Nat → Bool) : ∀ (xs : List α) (acc : List α) (k : Nat), (xs.foldl (fun (a : List α × Nat) x => (if P a.2 then a.1 else a.1 ++ [x], a.2 + 1)) (acc, k)).1 = acc ++ dropAt P k xs := by
  intro xs
  induction xs with
  | nil => intro acc k; simp [dropAt]
  | cons x xs ih =>
    intro acc k
    rw [List.foldl_cons, ih, dropAt]
    cases P k <;> simp

theorem dropAt_len {α : Type} (P : Nat → Bool) : ∀ (xs : List α) (k : Nat), (dropAt P k xs).length ≤ xs.length ∧ ∀ x ∈ dropAt P k xs, x ∈ xs := by
  intro xs
  induction xs with
  | nil => intro k; simp [dropAt]
  | cons x xs ih =>
    intro k
    obtain ⟨h1, h2⟩ := ih (k + 1)
    rw [dropAt]
    split
    · exact ⟨by simp only [List.length_cons]; omega, fun y hy => List.mem_cons_of_mem _ (h2 y hy)⟩
    · refine ⟨by simp only [List.length_cons]; omega, fun y hy => ?_⟩
      rcases List.mem_cons.1 hy with rfl | hy
      · simp
      · exact List.mem_cons_of_mem _ (h2 y hy)

theorem twith_val (n : Int) (rings : List (List Int)) (away : List Int) (come : List (List Int)) (hlen : rings.length < 1073741824) (ha : away.length < 1073741824) (hc : come.length < 1073741824)
    (hne : ∀ l ∈ rings, l ≠ []) (hce : ∀ r ∈ come, plain r ≠ []) :
    ∃ ys, twith ((n, (rings, ())), away, come, ()) = some (n, ys, ()) ∧ ys.Perm (dropAt (fun k => decide ((k : Int) ∈ away)) 0 rings ++ come.map plain) ∧ ys.Pairwise (fun a b => ¬ hd b < hd a) := by
  rw [twith_eq, twith_d]
  have e := walkL (step := twith_s0) (fun i (a : List (List Int) × Nat) => (away, come, n, rings, (0 : Int), a.1, rings, dlen rings, (i : Int), ())) rings
    (fun x a => .inl (if decide ((a.2 : Int) ∈ away) then a.1 else a.1 ++ [x], a.2 + 1)) (fun a => .inl (come, n, rings, (0 : Int), a.1, ())) (fun i a => a.2 = i ∧ a.1.length ≤ i) (by omega)
    (fun i x a hi hx ⟨h1, h2⟩ => by
      refine ⟨fun m' h' => ?_, fun r h' => by cases h'⟩
      cases h'
      subst h1
      rw [twith_s0, dlen_l, ilt_nat, decide_eq_true hi]
      simp only [idx_some hx, containsI_val away _ (show away.length < 9223372036854775808 by omega)]
      rw [wrap_add1 (by omega), fits_l (by simp only [dlen_l, List.length_cons, List.length_nil]; omega)]
      by_cases h : (a.2 : Int) ∈ away
      · simp only [h, decide_true, Bool.not_true, if_true]
        exact ⟨by trivial, by trivial, by omega⟩
      · simp only [h, decide_false, Bool.not_false]
        exact ⟨by trivial, by trivial, by simp; omega⟩)
    (fun a _ => by rw [twith_s0, dlen_l, ilt_nat, decide_eq_false (by omega)]) ([], 0) ⟨rfl, by simp⟩
  have e' : iterL twith_s0 many (away, come, n, rings, (0 : Int), [], rings, dlen rings, (0 : Int), ()) = _ := e
  rw [e', walk_fold]
  have hdf : (rings.foldl (fun (a : List (List Int) × Nat) x => (if decide ((a.2 : Int) ∈ away) then a.1 else a.1 ++ [x], a.2 + 1)) ([], 0)).1 = dropAt (fun k => decide ((k : Int) ∈ away)) 0 rings := by
    have := dropAt_fold (fun k => decide ((k : Int) ∈ away)) rings [] 0
    rw [List.nil_append] at this
    exact this
  simp only [hdf]
  obtain ⟨g1, g2⟩ := dropAt_len (fun k => decide ((k : Int) ∈ away)) rings 0
  generalize dropAt (fun k => decide ((k : Int) ∈ away)) 0 rings = rest at *
  have f := walkL (step := twith_s1) (fun i (a : List (List Int)) => (n, rings, (0 : Int), a, come, dlen come, (i : Int), ())) come
    (fun x a => .inl (a ++ [plain x])) (fun a => .inl (n, rings, (0 : Int), a, ())) (fun i a => a.length = rest.length + i) (by omega)
    (fun i x a hi hx h1 => by
      refine ⟨fun m' h' => ?_, fun r h' => by cases h'⟩
      cases h'
      rw [twith_s1, dlen_l, ilt_nat, decide_eq_true hi]
      simp only [idx_some hx, rplain_val]
      rw [wrap_add1 (by omega), fits_l (by simp only [dlen_l, List.length_cons, List.length_nil]; omega)]
      exact ⟨rfl, by simp; omega⟩)
    (fun a _ => by rw [twith_s1, dlen_l, ilt_nat, decide_eq_false (by omega)]) rest rfl
  have f' : iterL twith_s1 many (n, rings, (0 : Int), rest, come, dlen come, (0 : Int), ()) = _ := f
  rw [f', walk_fold]
  have hfold : ∀ (l acc : List (List Int)), l.foldl (fun a x => a ++ [plain x]) acc = acc ++ l.map plain := by
    intro l
    induction l with
    | nil => intro acc; simp
    | cons x l ih => intro acc; rw [List.foldl_cons, ih]; simp
  simp only [hfold]
  obtain ⟨ys, y1, y2, y3⟩ := SL.sort_val (rest ++ come.map plain) (by simp; omega) (fun x hx => by
    rcases List.mem_append.1 hx with h | h
    · exact hne x (g2 x h)
    · obtain ⟨r, hr, rfl⟩ := List.mem_map.1 h
      exact hce r hr)
  refine ⟨ys, by simp only [y1], y2, y3.imp fun {a b} h => ?_⟩
  simp only [SL.lt, Go.Sort.ltInt, decide_eq_false_iff_not] at h
  exact h

/-- a ring among others, by its first token -/
def putL (rest : List (List Int)) (p : List Int) : List (List Int) := rest.take (rest.findIdx fun x => !decide (hd x < hd p)) ++ p :: rest.drop (rest.findIdx fun x => !decide (hd x < hd p))
theorem putL_perm (rest : List (List Int)) (p : List Int) : (putL rest p).Perm (p :: rest) := by
  rw [putL]
  refine List.perm_middle.trans ?_
  rw [List.take_append_drop]
theorem putL_up {rest : List (List Int)} {p : List Int} (h : rest.Pairwise (fun a b => hd a < hd b)) (hne : ∀ x ∈ rest, hd x ≠ hd p) : (putL rest p).Pairwise (fun a b => hd a < hd b) := by
  rw [putL]
  have hlt : ∀ x ∈ rest.take (rest.findIdx fun x => !decide (hd x < hd p)), hd x < hd p := by
    intro x hx
    obtain ⟨j, hj, e⟩ := List.mem_take_iff_getElem.1 hx
    have := List.not_of_lt_findIdx (p := fun x => !decide (hd x < hd p)) (xs := rest) (i := j) (by omega)
    rw [e] at this
    simpa using this
  have hgt : ∀ x ∈ rest.drop (rest.findIdx fun x => !decide (hd x < hd p)), hd p < hd x := by
    intro x hx
    by_cases hk : (rest.findIdx fun x => !decide (hd x < hd p)) < rest.length
    · have h0 := List.findIdx_getElem (p := fun x => !decide (hd x < hd p)) (xs := rest) (w := hk)
      rw [List.drop_eq_getElem_cons hk] at hx
      have h1 : ¬ hd rest[rest.findIdx fun x => !decide (hd x < hd p)] < hd p := by simpa using h0
      have h2 := hne _ (List.getElem_mem hk)
      rcases List.mem_cons.1 hx with rfl | hx
      · omega
      · have hpw : (rest.drop (rest.findIdx fun x => !decide (hd x < hd p))).Pairwise (fun a b => hd a < hd b) := h.sublist (List.drop_sublist _ _)
        rw [List.drop_eq_getElem_cons hk, List.pairwise_cons] at hpw
        have := hpw.1 x hx
        omega
    · rw [List.drop_of_length_le (by omega)] at hx
      cases hx
  rw [List.pairwise_append, List.pairwise_cons]
  refine ⟨h.sublist (List.take_sublist _ _), ⟨hgt, h.sublist (List.drop_sublist _ _)⟩, fun a ha b hb => ?_⟩
  rcases List.mem_cons.1 hb with rfl | hb
  · exact hlt a ha
  · have := hlt a ha
    have := hgt b hb
    omega

end Go.Pev.Pl
end
section
/- Two trees linked, one cut, by the program alone. -/
namespace Go.Pev.Pl
open Tok

theorem arc_ge {n u v : Int} (h : okT n (.arc u v)) : n ≤ arcT n u v := by rw [arcT_enc h]; exact (enc_arc h.1 h.2.1).1

/-- the ring of two linked ones -/
def linkAll (n : Int) (A B : List Int) (u v : Int) : List Int := u :: arcT n u v :: (rotAt B v ++ arcT n v u :: (rotAt A u).tail)

theorem link_ring {n u v : Int} {A B : List Int} (hA : TI n A) (hB : TI n B) (hu : u ∈ A) (hv : v ∈ B) (iu : In n u) (iv : In n v) (hd : Dis n A B) :
    TI n (linkAll n A B u v) ∧ rotAt A u = u :: (rotAt A u).tail ∧ (∀ t, t < n → (t ∈ linkAll n A B u v ↔ t ∈ A ∨ t ∈ B)) ∧ u ≠ v ∧ okT n (.arc u v) := by
  obtain ⟨a, a1, a2, a3⟩ := TI_rotAt hA (t := .ver u) iu hu
  obtain ⟨b, b1, b2, b3⟩ := TI_rotAt hB (t := .ver v) iv hv
  have a1' : rotAt A u = (Tok.ver u :: a).map (encT n) := a1
  have b1' : rotAt B v = (Tok.ver v :: b).map (encT n) := b1
  have huv : u ≠ v := by rintro rfl; exact hd u hu iu.2.2.2 hv
  have ho : okT n (.arc u v) := ⟨iu, iv, huv⟩
  have pA := (rotAt_irot hu).perm
  have pB := (rotAt_irot hv).perm
  have ht : rotAt A u = u :: (rotAt A u).tail := by rw [a1']; rfl
  have hall : linkAll n A B u v = (Tok.ver u :: .arc u v :: (.ver v :: b ++ .arc v u :: a)).map (encT n) := by
    rw [linkAll, a1', b1', arcT_enc ho, arcT_enc (okT_swap ho)]
    simp [encT]
  refine ⟨⟨_, hall, fun t ht => ?_, T.join a2 b2 fun x hx hx2 => ?_⟩, ht, fun t ht2 => ?_, huv, ho⟩
  · rcases List.mem_cons.1 ht with rfl | ht
    · exact iu
    · rcases List.mem_cons.1 ht with rfl | ht
      · exact ho
      · rcases List.mem_append.1 ht with ht | ht
        · exact b3 t ht
        · rcases List.mem_cons.1 ht with rfl | ht
          · exact okT_swap ho
          · exact a3 t (List.mem_cons_of_mem _ ht)
  · have ix := a3 _ hx
    have x1 : x ∈ A := pA.mem_iff.2 (by rw [a1']; exact List.mem_map.2 ⟨_, hx, rfl⟩)
    have x2 : x ∈ B := pB.mem_iff.2 (by rw [b1']; exact List.mem_map.2 ⟨_, hx2, rfl⟩)
    exact hd x x1 ix.2.2.2 x2
  · have g1 := arc_ge ho
    have g2 := arc_ge (okT_swap ho)
    have e1 : t ∈ A ↔ t = u ∨ t ∈ (rotAt A u).tail := by rw [pA.mem_iff, ht, List.mem_cons, List.tail_cons]
    rw [linkAll, List.mem_cons, List.mem_cons, List.mem_append, List.mem_cons, e1, ← pB.mem_iff]
    constructor
    · rintro (h | h | h | h | h)
      · exact .inl (.inl h)
      · omega
      · exact .inr h
      · omega
      · exact .inl (.inr h)
    · rintro ((h | h) | h)
      · exact .inl h
      · exact .inr (.inr (.inr (.inr h)))
      · exact .inr (.inr (.inl h))

theorem dis_perm {n : Int} {a b : List (List Int)} (h : a.Perm b) (ha : a.Pairwise (Dis n)) : b.Pairwise (Dis n) := (h.pairwise_iff fun {_ _} hh => hh.symm).1 ha

theorem FR_link {n : Int} {rings rest zs : List (List Int)} {A B p : List Int} (h : FR n rings) (hp : rings.Perm (A :: B :: rest)) (hg : RG n p) (hm : ∀ t, t < n → (t ∈ p ↔ t ∈ A ∨ t ∈ B)) (hz : zs.Perm (p :: rest)) (hu : zs.Pairwise (fun a b => hd a < hd b)) : FR n zs := by
  have hd0 := dis_perm hp h.dis
  rw [List.pairwise_cons, List.pairwise_cons] at hd0
  obtain ⟨h1, h2, h3⟩ := hd0
  refine ⟨h.sz, fun l hl => ?_, hu, dis_perm hz.symm ?_, fun v hv => ?_⟩
  · rcases List.mem_cons.1 (hz.mem_iff.1 hl) with rfl | hl
    · exact hg
    · exact h.rg l (hp.mem_iff.2 (by simp [hl]))
  · rw [List.pairwise_cons]
    refine ⟨fun r hr t ht htn => ?_, h3⟩
    rcases (hm t htn).1 ht with g | g
    · exact h1 r (by simp [hr]) t g htn
    · exact h2 r hr t g htn
  · obtain ⟨l, hl, hvl⟩ := h.cov v hv
    have := hp.mem_iff.1 hl
    simp only [List.mem_cons] at this
    rcases this with rfl | rfl | g
    · exact ⟨p, hz.mem_iff.2 (by simp), (hm v hv.2.2.2).2 (.inl hvl)⟩
    · exact ⟨p, hz.mem_iff.2 (by simp), (hm v hv.2.2.2).2 (.inr hvl)⟩
    · exact ⟨l, hz.mem_iff.2 (by simp [g]), hvl⟩

theorem FR_cut {n : Int} {rings rest zs : List (List Int)} {A p q : List Int} (h : FR n rings) (hp : rings.Perm (A :: rest)) (hg : RG n p) (hg2 : RG n q) (hpq : Dis n p q) (hm : ∀ t, t < n → (t ∈ A ↔ t ∈ p ∨ t ∈ q)) (hz : zs.Perm (p :: q :: rest)) (hu : zs.Pairwise (fun a b => hd a < hd b)) : FR n zs := by
  have hd0 := dis_perm hp h.dis
  rw [List.pairwise_cons] at hd0
  obtain ⟨h1, h3⟩ := hd0
  refine ⟨h.sz, fun l hl => ?_, hu, dis_perm hz.symm ?_, fun v hv => ?_⟩
  · have := hz.mem_iff.1 hl
    simp only [List.mem_cons] at this
    rcases this with rfl | rfl | hl
    · exact hg
    · exact hg2
    · exact h.rg l (hp.mem_iff.2 (by simp [hl]))
  · rw [List.pairwise_cons, List.pairwise_cons]
    refine ⟨fun r hr t ht htn => ?_, fun r hr t ht htn => h1 r hr t ((hm t htn).2 (.inr ht)) htn, h3⟩
    rcases List.mem_cons.1 hr with rfl | hr
    · exact hpq t ht htn
    · exact h1 r hr t ((hm t htn).2 (.inl ht)) htn
  · obtain ⟨l, hl, hvl⟩ := h.cov v hv
    have := hp.mem_iff.1 hl
    simp only [List.mem_cons] at this
    rcases this with rfl | g
    · rcases (hm v hv.2.2.2).1 hvl with g | g
      · exact ⟨p, hz.mem_iff.2 (by simp), g⟩
      · exact ⟨q, hz.mem_iff.2 (by simp), g⟩
    · exact ⟨l, hz.mem_iff.2 (by simp [g]), hvl⟩

/-- who is asked -/
theorem asked_val (n : Int) (rings : List (List Int)) (u v : Int) (hD : Dom rings) : asked ((n, (rings, ())), u, v, ()) = some (if RF n rings then if In n u ∧ In n v then 0 else 10 else 1, ()) := by
  rw [asked_eq, asked_d]
  simp only [tright_val n rings hD.1 hD.2, tin_val]
  by_cases h : RF n rings
  · by_cases h1 : In n u
    · by_cases h2 : In n v <;> simp [h, h1, h2]
    · simp [h, h1]
  · simp [h]

theorem link_ok {n : Int} {rings : List (List Int)} {u v : Int} {i j : Nat} {A B : List Int} (h : FR n rings) (iu : In n u) (iv : In n v) (hi : rings[i]? = some A) (hj : rings[j]? = some B) (hu : u ∈ A) (hv : v ∈ B) (hij : i ≠ j) :
    ∃ zs rest, tlink ((n, (rings, ())), u, v, ()) = some (n, zs, 0, ()) ∧ FR n zs ∧ rings.Perm (A :: B :: rest) ∧ zs.Perm (plain (linkAll n A B u v) :: rest) ∧ Dis n A B := by
  have hD := h.dom
  have hRF := RF_iff.2 h
  have rA := h.rg A (List.mem_of_getElem? hi)
  have rB := h.rg B (List.mem_of_getElem? hj)
  have hil := (List.getElem?_eq_some_iff.1 hi).1
  have hjl := (List.getElem?_eq_some_iff.1 hj).1
  have pu : plc rings u = (i : Int) := h.plc_eq hi iu.2.2.2 hu
  have pv : plc rings v = (j : Int) := h.plc_eq hj iv.2.2.2 hv
  have hperm : rings.Perm (A :: B :: (rings.eraseIdx (max i j)).eraseIdx (min i j)) := by
    rcases Nat.lt_or_gt_of_ne hij with g | g
    · rw [Nat.max_eq_right (by omega), Nat.min_eq_left (by omega)]
      exact erase2_perm g hi hj
    · rw [Nat.max_eq_left (by omega), Nat.min_eq_right (by omega)]
      exact (erase2_perm g hj hi).trans (List.Perm.swap _ _ _)
  have hdis : Dis n A B := by
    have := dis_perm hperm h.dis
    rw [List.pairwise_cons] at this
    exact this.1 B (by simp)
  obtain ⟨l1, l2, l3, huv, ho⟩ := link_ring rA.2.2.2 rB.2.2.2 hu hv iu iv hdis
  obtain ⟨hRG, hrot⟩ := RG_plain l1
  have hall : linkAll n A B u v = u :: arcT n u v :: (rotAt B v ++ arcT n v u :: (rotAt A u).tail) := rfl
  have lA : (rotAt A u).length ≤ 1000 := by rw [← (rotAt_irot hu).perm.length_eq]; exact rA.1.1
  have lB : (rotAt B v).length ≤ 1000 := by rw [← (rotAt_irot hv).perm.length_eq]; exact rB.1.1
  have hsub : ((rings.eraseIdx (max i j)).eraseIdx (min i j)).Sublist rings := (List.eraseIdx_sublist _ _).trans (List.eraseIdx_sublist _ _)
  have hdrop : dropAt (fun k => decide ((k : Int) ∈ [(i : Int), (j : Int)])) 0 rings = (rings.eraseIdx (max i j)).eraseIdx (min i j) := by
    rcases Nat.lt_or_gt_of_ne hij with g | g
    · rw [Nat.max_eq_right (by omega), Nat.min_eq_left (by omega)]
      exact dropAt_two _ i j g rings 0 (by omega) fun k _ => decide_eq_decide.2 (by simp only [List.mem_cons, List.not_mem_nil, or_false]; omega)
    · rw [Nat.max_eq_left (by omega), Nat.min_eq_right (by omega)]
      exact dropAt_two _ j i g rings 0 (by omega) fun k _ => decide_eq_decide.2 (by simp only [List.mem_cons, List.not_mem_nil, or_false]; omega)
  have hrl : ((rings.eraseIdx (max i j)).eraseIdx (min i j)).length ≤ rings.length := hsub.length_le
  generalize (rings.eraseIdx (max i j)).eraseIdx (min i j) = rest at *
  have hupr : rest.Pairwise (fun a b => hd a < hd b) := h.up.sublist hsub
  have hner : ∀ l ∈ rest, l ≠ [] := fun l hl => (h.rg l (hsub.subset hl)).2.1
  have hdd := dis_perm hperm h.dis
  rw [List.pairwise_cons, List.pairwise_cons] at hdd
  have hheads : ∀ x ∈ rest, hd x ≠ hd (plain (linkAll n A B u v)) := by
    intro x hx e
    have g1 := RG_head hRG
    have g2 := (l3 _ g1.2.2.2).1 (hrot.perm.mem_iff.2 (hd_mem hRG.2.1))
    have g3 : hd (plain (linkAll n A B u v)) ∈ x := e ▸ hd_mem (hner x hx)
    rcases g2 with g | g
    · exact hdd.1 x (by simp [hx]) _ g g1.2.2.2 g3
    · exact hdd.2.1 x hx _ g g1.2.2.2 g3
  have hup := putL_up hupr hheads
  have hpz := putL_perm rest (plain (linkAll n A B u v))
  refine ⟨putL rest (plain (linkAll n A B u v)), rest, ?_, FR_link h hperm hRG (fun t ht => by rw [← hrot.perm.mem_iff]; exact l3 t ht) hpz hup, hperm, hpz, hdis⟩
  · obtain ⟨ys, y1, y2, y3⟩ := twith_val n rings [(i : Int), (j : Int)] [linkAll n A B u v] hD.1 (by simp) (by simp) (fun l hl => (h.rg l hl).2.1) (by simp; exact hRG.2.1)
    have hys : ys = putL rest (plain (linkAll n A B u v)) := by
      refine sorted_same hup (y2.trans ?_) y3
      rw [hdrop]
      exact (List.perm_append_comm (l₁ := rest) (l₂ := [plain (linkAll n A B u v)])).trans hpz.symm
    rw [hys] at y1
    rw [tlink_eq, tlink_d]
    have s1 : subl (rotAt A u) (0 : Int) (1 : Int) = some [u] := by
      have := subl_l (xs := rotAt A u) (l := 0) (h := 1) (by omega) (by rw [l2]; simp)
      rw [l2] at this ⊢
      exact this
    have s2 : subl (rotAt A u) (1 : Int) (dlen (rotAt A u)) = some (rotAt A u).tail := by
      have := subl_end (xs := rotAt A u) (l := 1) (by rw [l2]; simp)
      rw [List.drop_one] at this
      exact this
    have d1 : dcut 0 (dnat (dlen [u])) (rotAt A u) = [u] := by rw [l2]; rfl
    have d2 : dcut 1 (dnat (dlen (rotAt A u).tail)) (rotAt A u) = (rotAt A u).tail := by
      rw [dcut, dlen_l, dnat_l, List.drop_one, List.take_length]
    have hcat : concatI ([[u], [arcT n u v], rotAt B v, [arcT n v u], (rotAt A u).tail], ()) = some (linkAll n A B u v, ()) := by
      rw [concatI_val _ (by simp) (by simp; omega)]
      simp [linkAll]
    have ne : ((i : Int)) ≠ (j : Int) := by omega
    simp only [asked_val n rings u v hD, hRF, iu, iv, and_self, if_true, ieq_dec, tplace_val n rings _ hD.1 (fun l hl => (hD.2 l hl).1), pu, pv, ne, decide_true, decide_false, Bool.not_true, idx_some hi, idx_some hj, rfrom_val, fromOut, rA.1, rB.1, hu, hv, s1, s2, tarc_val, d1, d2, hcat, y1]

theorem pos_eq {xs a b : List Int} {t : Int} (h : xs = a ++ t :: b) (ha : t ∉ a) : pos xs t = (a.length : Int) := by
  obtain ⟨k, e, hk, hg, h1, h2⟩ := pos_in (xs := xs) (t := t) (by rw [h]; simp)
  obtain ⟨q1, q2⟩ := split_uniq (h.symm.trans h1) ha h2
  rw [e]
  have := congrArg List.length q1
  rw [List.length_take] at this
  omega

/-- a ring that is cut: what lies within, and what lies without -/
theorem cut_ring {n u v : Int} {A : List Int} (hA : TI n A) (ht : arcT n u v ∈ A) (hpos : 0 ≤ arcT n u v) :
    ∃ p q, rotAt A (arcT n u v) = arcT n u v :: (p ++ arcT n v u :: q) ∧ arcT n v u ∉ p ∧ arcT n v u ≠ arcT n u v ∧ TI n p ∧ TI n q ∧ v ∈ p ∧ u ∈ q ∧ Dis n p q ∧ (∀ t, t < n → (t ∈ A ↔ t ∈ p ∨ t ∈ q)) ∧ okT n (.arc u v) := by
  have ho : okT n (.arc u v) := by
    rcases arcT_cases n u v with h | h
    · exact h.1
    · omega
  have hrt := (rotAt_irot ht).perm
  rw [arcT_enc ho] at ht hrt
  obtain ⟨r, r1, r2, r3⟩ := TI_rotAt hA ho ht
  obtain ⟨_, _, f3⟩ := r2.facts
  have hr : Tok.arc v u ∈ r := by
    have := (f3 u v (by simp)).2.2.1
    rcases List.mem_cons.1 this with h | h
    · cases h; exact absurd rfl ho.2.2
    · exact h
  obtain ⟨P, Q, rfl⟩ := List.append_of_mem hr
  have hn := r2.nodup
  have hn' := hn
  rw [List.nodup_cons, List.nodup_append, List.nodup_cons (a := Tok.arc v u)] at hn'
  obtain ⟨tP, vP⟩ := T.split r2
  have r2' : T (.arc v u :: (Q ++ .arc u v :: P)) := r2.of_rot ⟨.arc u v :: P, .arc v u :: Q, by simp, by simp⟩
  obtain ⟨tQ, uQ⟩ := T.split r2'
  have oP : ∀ t ∈ P, okT n t := fun t ht => r3 t (by simp [ht])
  have oQ : ∀ t ∈ Q, okT n t := fun t ht => r3 t (by simp [ht])
  have hs := okT_swap ho
  refine ⟨P.map (encT n), Q.map (encT n), by rw [arcT_enc ho, arcT_enc hs, r1]; simp, ?_, ?_, ⟨P, rfl, oP, tP⟩, ⟨Q, rfl, oQ, tQ⟩, List.mem_map.2 ⟨_, vP, rfl⟩, List.mem_map.2 ⟨_, uQ, rfl⟩, fun t h1 h2 h3 => ?_, fun t htn => ?_, ho⟩
  · rw [arcT_enc hs, mem_enc oP hs]
    intro h
    exact hn'.2.2.2 _ h _ (by simp) rfl
  · rw [arcT_enc ho, arcT_enc hs]
    intro e
    have := enc_inj hs ho e
    cases this
    exact ho.2.2 rfl
  · obtain ⟨x, hx, e⟩ := List.mem_map.1 h1
    obtain ⟨y, hy, e2⟩ := List.mem_map.1 h3
    have := enc_inj (oP x hx) (oQ y hy) (by rw [e, e2])
    subst this
    exact hn'.2.2.2 x hx x (by simp [hy]) rfl
  · rw [hrt.mem_iff, r1]
    have g1 := arc_ge ho
    have g2 := arc_ge hs
    rw [arcT_enc ho] at g1
    rw [arcT_enc hs] at g2
    simp only [List.map_cons, List.map_append, List.mem_cons, List.mem_append]
    constructor
    · rintro (h | h | h | h)
      · omega
      · exact .inl h
      · omega
      · exact .inr h
    · rintro (h | h)
      · exact .inr (.inl h)
      · exact .inr (.inr (.inr h))

theorem cut_ok {n : Int} {rings : List (List Int)} {u v : Int} {i : Nat} {A : List Int} (h : FR n rings) (iu : In n u) (iv : In n v) (hi : rings[i]? = some A) (hu : u ∈ A) (ht : arcT n u v ∈ A) :
    ∃ zs rest p q, tcut ((n, (rings, ())), u, v, ()) = some (n, zs, 0, ()) ∧ FR n zs ∧ rings.Perm (A :: rest) ∧ zs.Perm (plain p :: plain q :: rest) ∧
      rotAt A (arcT n u v) = arcT n u v :: (p ++ arcT n v u :: q) ∧ TI n p ∧ TI n q ∧ v ∈ p ∧ u ∈ q ∧ Dis n p q ∧ (∀ t, t < n → (t ∈ A ↔ t ∈ p ∨ t ∈ q)) ∧ okT n (.arc u v) := by
  have hD := h.dom
  have hRF := RF_iff.2 h
  have rA := h.rg A (List.mem_of_getElem? hi)
  have hil := (List.getElem?_eq_some_iff.1 hi).1
  have pu : plc rings u = (i : Int) := h.plc_eq hi iu.2.2.2 hu
  obtain ⟨p, q, c1, c2, c3, tp, tq, vp, uq, hdis, hmem, ho⟩ := cut_ring rA.2.2.2 ht (rA.1.2.1 _ ht).1
  obtain ⟨gp, ip⟩ := RG_plain tp
  obtain ⟨gq, iq⟩ := RG_plain tq
  have lA : (rotAt A (arcT n u v)).length ≤ 1000 := by rw [← (rotAt_irot ht).perm.length_eq]; exact rA.1.1
  have hdis2 : Dis n (plain p) (plain q) := fun t h1 h2 h3 => hdis t (ip.perm.mem_iff.2 h1) h2 (iq.perm.mem_iff.2 h3)
  have hmem2 : ∀ t, t < n → (t ∈ A ↔ t ∈ plain p ∨ t ∈ plain q) := fun t htn => by rw [hmem t htn, ip.perm.mem_iff, iq.perm.mem_iff]
  have hperm : rings.Perm (A :: rings.eraseIdx i) := erase_perm hi
  have hsub : (rings.eraseIdx i).Sublist rings := List.eraseIdx_sublist _ _
  have hdrop : dropAt (fun k => decide ((k : Int) ∈ [(i : Int)])) 0 rings = rings.eraseIdx i := dropAt_one _ i rings 0 (by omega) fun k _ => decide_eq_decide.2 (by simp only [List.mem_cons, List.not_mem_nil, or_false]; omega)
  have hrl : (rings.eraseIdx i).length ≤ rings.length := hsub.length_le
  generalize rings.eraseIdx i = rest at *
  have hupr : rest.Pairwise (fun a b => hd a < hd b) := h.up.sublist hsub
  have hner : ∀ l ∈ rest, l ≠ [] := fun l hl => (h.rg l (hsub.subset hl)).2.1
  have hdd := dis_perm hperm h.dis
  rw [List.pairwise_cons] at hdd
  have hh1 : ∀ x ∈ rest, hd x ≠ hd (plain p) := by
    intro x hx e
    have g1 := RG_head gp
    exact hdd.1 x hx _ ((hmem2 _ g1.2.2.2).2 (.inl (hd_mem gp.2.1))) g1.2.2.2 (by have := hd_mem (hner x hx); rw [e] at this; exact this)
  have hup1 := putL_up hupr hh1
  have hpz1 := putL_perm rest (plain p)
  have hh2 : ∀ x ∈ putL rest (plain p), hd x ≠ hd (plain q) := by
    intro x hx e
    have g1 := RG_head gq
    rcases List.mem_cons.1 (hpz1.mem_iff.1 hx) with rfl | hx
    · exact hdis2 _ (by have := hd_mem gp.2.1; rw [e] at this; exact this) g1.2.2.2 (hd_mem gq.2.1)
    · exact hdd.1 x hx _ ((hmem2 _ g1.2.2.2).2 (.inr (hd_mem gq.2.1))) g1.2.2.2 (by have := hd_mem (hner x hx); rw [e] at this; exact this)
  have hup := putL_up hup1 hh2
  have hpz : (putL (putL rest (plain p)) (plain q)).Perm (plain p :: plain q :: rest) := (putL_perm _ _).trans ((hpz1.cons _).trans (List.Perm.swap _ _ _))
  have hk : pos (rotAt A (arcT n u v)) (arcT n v u) = ((p.length + 1 : Nat) : Int) := pos_eq (a := arcT n u v :: p) (b := q) (by rw [c1]; rfl) (by
    intro hm
    rcases List.mem_cons.1 hm with e | e
    · exact c3 e
    · exact c2 e)
  have s1 : subl (rotAt A (arcT n u v)) (1 : Int) ((p.length + 1 : Nat) : Int) = some p := by
    have := subl_l (xs := rotAt A (arcT n u v)) (l := 1) (h := p.length + 1) (by omega) (by rw [c1]; simp)
    rw [c1] at this ⊢
    rw [show (arcT n u v :: (p ++ arcT n v u :: q)).take (p.length + 1) = arcT n u v :: p by rw [List.take_succ_cons, List.take_left' rfl]] at this
    exact this
  have hdr : (rotAt A (arcT n u v)).drop (p.length + 2) = q := by
    rw [c1, show p.length + 2 = (p.length + 1) + 1 by omega, List.drop_succ_cons, ← List.drop_drop, List.drop_left' rfl]
    rfl
  have s2 : subl (rotAt A (arcT n u v)) ((p.length + 2 : Nat) : Int) (dlen (rotAt A (arcT n u v))) = some q := by
    rw [subl_end (by rw [c1]; simp), hdr]
  have d1 : dcut 1 (dnat (dlen p)) (rotAt A (arcT n u v)) = p := by
    rw [dcut, dlen_l, dnat_l, c1, List.drop_one, List.tail_cons, List.take_left' rfl]
  have d2 : dcut (dnat ((p.length + 2 : Nat) : Int)) (dnat (dlen q)) (rotAt A (arcT n u v)) = q := by
    rw [dcut, dlen_l, dnat_l, dnat_l, hdr, List.take_length]
  have w1 : IntKind.wrap .i64 (((p.length + 1 : Nat) : Int) + 1) = ((p.length + 2 : Nat) : Int) := wrap_add1 (by rw [c1] at lA; simp at lA; omega)
  refine ⟨putL (putL rest (plain p)) (plain q), rest, p, q, ?_, FR_cut h hperm gp gq hdis2 hmem2 hpz hup, hperm, hpz, c1, tp, tq, vp, uq, hdis, hmem, ho⟩
  · obtain ⟨ys, y1, y2, y3⟩ := twith_val n rings [(i : Int)] [p, q] hD.1 (by simp) (by simp) (fun l hl => (h.rg l hl).2.1) (by
      intro r hr
      simp only [List.mem_cons, List.not_mem_nil, or_false] at hr
      rcases hr with rfl | rfl
      · exact gp.2.1
      · exact gq.2.1)
    have hys : ys = putL (putL rest (plain p)) (plain q) := by
      refine sorted_same hup (y2.trans ?_) y3
      rw [hdrop]
      exact (List.perm_append_comm (l₁ := rest) (l₂ := [plain p, plain q])).trans hpz.symm
    rw [hys] at y1
    rw [tcut_eq, tcut_d]
    simp only [asked_val n rings u v hD, hRF, iu, iv, and_self, if_true, ieq_dec, tplace_val n rings _ hD.1 (fun l hl => (hD.2 l hl).1), pu, decide_true, Bool.not_true, idx_some hi, rfrom_val, fromOut, rA.1, ht, tarc_val, indexI_val _ _ (show (rotAt A (arcT n u v)).length < 9223372036854775808 by omega), hk, s1, w1, s2, d1, d2, y1]

theorem link_there {n : Int} {rings : List (List Int)} {u v : Int} (h : FR n rings) (iu : In n u) (iv : In n v) (hp : plc rings u = plc rings v) :
    tlink ((n, (rings, ())), u, v, ()) = some (n, rings, 5, ()) := by
  have hD := h.dom
  have hRF := RF_iff.2 h
  rw [tlink_eq, tlink_d]
  simp only [asked_val n rings u v hD, hRF, iu, iv, and_self, if_true, ieq_dec, tplace_val n rings _ hD.1 (fun l hl => (hD.2 l hl).1), hp, decide_true, Bool.not_true]
end Go.Pev.Pl
end
section
/- Who is joined by edges. No program in sight. -/
namespace Go.Pev.Pl
abbrev Edge := Int × Int × Unit
inductive Con (l : List Edge) : Int → Int → Prop
  | refl (a : Int) : Con l a a
  | edge (e : Edge) : e ∈ l → Con l e.1 e.2.1
  | symm {a b : Int} : Con l a b → Con l b a
  | trans {a b c : Int} : Con l a b → Con l b c → Con l a c

theorem Con.mono {l l' : List Edge} (h : ∀ e ∈ l, ∃ e' ∈ l', (e'.1 = e.1 ∧ e'.2.1 = e.2.1) ∨ (e'.1 = e.2.1 ∧ e'.2.1 = e.1)) {a b : Int} (c : Con l a b) : Con l' a b := by
  induction c with
  | refl a => exact .refl a
  | edge e he =>
    obtain ⟨e', h1, h2 | h2⟩ := h e he
    · have := Con.edge e' h1
      rw [h2.1, h2.2] at this
      exact this
    · have := Con.edge e' h1
      rw [h2.1, h2.2] at this
      exact this.symm
  | symm _ ih => exact ih.symm
  | trans _ _ ih1 ih2 => exact ih1.trans ih2

theorem Con.snoc {l : List Edge} {e : Edge} {a b : Int} : Con (l ++ [e]) a b ↔ Con l a b ∨ (Con l a e.1 ∧ Con l e.2.1 b) ∨ (Con l a e.2.1 ∧ Con l e.1 b) := by
  constructor
  · intro h
    induction h with
    | refl a => exact .inl (.refl a)
    | edge e' he =>
      rcases List.mem_append.1 he with h | h
      · exact .inl (.edge e' h)
      · simp only [List.mem_singleton] at h
        subst h
        exact .inr (.inl ⟨.refl _, .refl _⟩)
    | symm _ ih =>
      rcases ih with h | ⟨h1, h2⟩ | ⟨h1, h2⟩
      · exact .inl h.symm
      · exact .inr (.inr ⟨h2.symm, h1.symm⟩)
      · exact .inr (.inl ⟨h2.symm, h1.symm⟩)
    | trans _ _ ih1 ih2 =>
      rcases ih1 with h | ⟨h1, h2⟩ | ⟨h1, h2⟩
      · rcases ih2 with g | ⟨g1, g2⟩ | ⟨g1, g2⟩
        · exact .inl (h.trans g)
        · exact .inr (.inl ⟨h.trans g1, g2⟩)
        · exact .inr (.inr ⟨h.trans g1, g2⟩)
      · rcases ih2 with g | ⟨g1, g2⟩ | ⟨g1, g2⟩
        · exact .inr (.inl ⟨h1, h2.trans g⟩)
        · exact .inr (.inl ⟨h1, g2⟩)
        · exact .inl (h1.trans g2)
      · rcases ih2 with g | ⟨g1, g2⟩ | ⟨g1, g2⟩
        · exact .inr (.inr ⟨h1, h2.trans g⟩)
        · exact .inl (h1.trans g2)
        · exact .inr (.inr ⟨h1, g2⟩)
  · have up : ∀ {x y}, Con l x y → Con (l ++ [e]) x y := fun h => h.mono fun e' he => ⟨e', by simp [he], .inl ⟨rfl, rfl⟩⟩
    have he : Con (l ++ [e]) e.1 e.2.1 := .edge e (by simp)
    rintro (h | ⟨h1, h2⟩ | ⟨h1, h2⟩)
    · exact up h
    · exact (up h1).trans (he.trans (up h2))
    · exact (up h1).trans (he.symm.trans (up h2))

theorem Con.nil {a b : Int} (h : Con [] a b) : a = b := by
  induction h with
  | refl a => rfl
  | edge e he => cases he
  | symm _ ih => exact ih.symm
  | trans _ _ ih1 ih2 => exact ih1.trans ih2

theorem Con.within {l : List Edge} {I : Int → Prop} (h : ∀ e ∈ l, I e.1 ∧ I e.2.1) {a b : Int} (c : Con l a b) : a = b ∨ (I a ∧ I b) := by
  induction c with
  | refl a => exact .inl rfl
  | edge e he => exact .inr (h e he)
  | symm _ ih =>
    rcases ih with h | h
    · exact .inl h.symm
    · exact .inr ⟨h.2, h.1⟩
  | trans _ _ ih1 ih2 =>
    rcases ih1 with rfl | h1
    · exact ih2
    · rcases ih2 with rfl | h2
      · exact .inr h1
      · exact .inr ⟨h1.1, h2.2⟩
/-- what is the same at both ends of all edges is the same for all that are joined -/
theorem Con.const {l : List Edge} {f : Int → Int} (h : ∀ e ∈ l, f e.1 = f e.2.1) {a b : Int} (c : Con l a b) : f a = f b := by
  induction c with
  | refl a => rfl
  | edge e he => exact h e he
  | symm _ ih => exact ih.symm
  | trans _ _ ih1 ih2 => exact ih1.trans ih2
end Go.Pev.Pl
end
section
/- A forest of edges: vertices are of one ring just if edges join them. -/
namespace Go.Pev.Pl
open Tok

def Same (rings : List (List Int)) (a b : Int) : Prop := ∃ A ∈ rings, a ∈ A ∧ b ∈ A
/-- a forest of edges -/
structure FC (n : Int) (rings : List (List Int)) (l : List Edge) : Prop where
  fr : FR n rings
  sam : ∀ a b, In n a → In n b → (Same rings a b ↔ Con l a b)
  arcs : ∀ A ∈ rings, ∀ u v, okT n (.arc u v) → arcT n u v ∈ A → ∃ e ∈ l, (e.1 = u ∧ e.2.1 = v) ∨ (e.1 = v ∧ e.2.1 = u)

theorem FR.same_plc {n : Int} {rings : List (List Int)} (h : FR n rings) {a b : Int} (ia : In n a) (ib : In n b) : plc rings a = plc rings b ↔ Same rings a b := by
  obtain ⟨i, A, pa, hi, ha, _⟩ := plc_in (h.cov a ia)
  obtain ⟨j, B, pb, hj, hb, _⟩ := plc_in (h.cov b ib)
  rw [pa, pb]
  constructor
  · intro e
    have : i = j := by omega
    subst this
    rw [hi] at hj
    cases hj
    exact ⟨A, List.mem_of_getElem? hi, ha, hb⟩
  · rintro ⟨K, hK, h1, h2⟩
    obtain ⟨k, hk⟩ : ∃ k : Nat, rings[k]? = some K := by
      obtain ⟨k, hk, rfl⟩ := List.getElem_of_mem hK
      exact ⟨k, List.getElem?_eq_getElem hk⟩
    rw [h.uniq hi hk ia.2.2.2 ha h1, h.uniq hj hk ib.2.2.2 hb h2]
theorem FR.one {n : Int} {rings : List (List Int)} (h : FR n rings) {A B : List Int} (hA : A ∈ rings) (hB : B ∈ rings) {v : Int} (iv : v < n) (h1 : v ∈ A) (h2 : v ∈ B) : A = B := by
  obtain ⟨i, hi, rfl⟩ := List.getElem_of_mem hA
  obtain ⟨j, hj, rfl⟩ := List.getElem_of_mem hB
  have := h.uniq (List.getElem?_eq_getElem hi) (List.getElem?_eq_getElem hj) iv h1 h2
  subst this
  rfl
theorem Same.perm {a b : List (List Int)} (h : a.Perm b) (x y : Int) : Same a x y ↔ Same b x y := by
  constructor
  · rintro ⟨A, hA, h1⟩; exact ⟨A, h.mem_iff.1 hA, h1⟩
  · rintro ⟨A, hA, h1⟩; exact ⟨A, h.mem_iff.2 hA, h1⟩

theorem link_arcs {n u v x y : Int} {A B : List Int} (hA : TI n A) (hB : TI n B) (hu : u ∈ A) (hv : v ∈ B) (iu : In n u) (iv : In n v) (hd : Dis n A B) (ho : okT n (.arc x y)) (h : arcT n x y ∈ linkAll n A B u v) : arcT n x y ∈ A ∨ arcT n x y ∈ B ∨ (x = u ∧ y = v) ∨ (x = v ∧ y = u) := by
  obtain ⟨_, l2, _, huv, ho2⟩ := link_ring hA hB hu hv iu iv hd
  have pA := (rotAt_irot hu).perm
  have pB := (rotAt_irot hv).perm
  have g := arc_ge ho
  rw [linkAll, List.mem_cons, List.mem_cons, List.mem_append, List.mem_cons] at h
  rcases h with h | h | h | h | h
  · have := iu.2.2.2; omega
  · rw [arcT_enc ho, arcT_enc ho2] at h
    have := enc_inj ho ho2 h
    cases this
    exact .inr (.inr (.inl ⟨rfl, rfl⟩))
  · exact .inr (.inl (pB.mem_iff.2 h))
  · rw [arcT_enc ho, arcT_enc (okT_swap ho2)] at h
    have := enc_inj ho (okT_swap ho2) h
    cases this
    exact .inr (.inr (.inr ⟨rfl, rfl⟩))
  · refine .inl (pA.mem_iff.2 ?_)
    rw [l2]
    exact List.mem_cons_of_mem _ h

theorem FC_link {n : Int} {rings : List (List Int)} {l : List Edge} {e : Edge} (h : FC n rings l) (iu : In n e.1) (iv : In n e.2.1) :
    ∃ zs q, tlink ((n, (rings, ())), e.1, e.2.1, ()) = some (n, zs, q, ()) ∧ FC n zs (l ++ [e]) ∧ (q = 0 ∧ zs.length + 1 = rings.length ∨ q = 5 ∧ zs = rings) := by
  have hF := h.fr
  obtain ⟨i, A, pu, hi, hu, _⟩ := plc_in (hF.cov _ iu)
  obtain ⟨j, B, pv, hj, hv, _⟩ := plc_in (hF.cov _ iv)
  have mA := List.mem_of_getElem? hi
  have mB := List.mem_of_getElem? hj
  by_cases hij : i = j
  · have hpe : plc rings e.1 = plc rings e.2.1 := by rw [pu, pv, hij]
    refine ⟨rings, 5, link_there hF iu iv hpe, ⟨hF, fun a b ia ib => ?_, fun A hA u v ho hm => ?_⟩, .inr ⟨rfl, rfl⟩⟩
    · rw [h.sam a b ia ib, Con.snoc]
      have hc : Con l e.1 e.2.1 := (h.sam _ _ iu iv).1 ((hF.same_plc iu iv).1 hpe)
      constructor
      · exact .inl
      · rintro (g | ⟨g1, g2⟩ | ⟨g1, g2⟩)
        · exact g
        · exact g1.trans (hc.trans g2)
        · exact g1.trans (hc.symm.trans g2)
    · obtain ⟨e', h1, h2⟩ := h.arcs A hA u v ho hm
      exact ⟨e', by simp [h1], h2⟩
  · obtain ⟨zs, rest, q1, q3, q4, q5, q6⟩ := link_ok hF iu iv hi hj hu hv hij
    have gA := hF.rg A mA
    have gB := hF.rg B mB
    obtain ⟨l1, l2, l3, huv, ho⟩ := link_ring gA.2.2.2 gB.2.2.2 hu hv iu iv q6
    obtain ⟨hRG, hrot⟩ := RG_plain l1
    have len1 := q4.length_eq
    have len2 := q5.length_eq
    simp only [List.length_cons] at len1 len2
    refine ⟨zs, 0, q1, ⟨q3, fun a b ia ib => ?_, fun K hK x y hxy hm => ?_⟩, .inl ⟨rfl, by omega⟩⟩
    · rw [Same.perm q5, Con.snoc, ← h.sam a b ia ib, ← h.sam a _ ia iu, ← h.sam _ b iv ib, ← h.sam a _ ia iv, ← h.sam _ b iu ib]
      have pmem : ∀ x, In n x → (x ∈ plain (linkAll n A B e.1 e.2.1) ↔ x ∈ A ∨ x ∈ B) := fun x ix => by rw [← hrot.perm.mem_iff]; exact l3 x ix.2.2.2
      have sA : ∀ x, In n x → (Same rings x e.1 ↔ x ∈ A) := fun x ix => by
        constructor
        · rintro ⟨K, hK, h1, h2⟩
          rw [hF.one mA hK iu.2.2.2 hu h2]; exact h1
        · intro hx; exact ⟨A, mA, hx, hu⟩
      have sB : ∀ x, In n x → (Same rings x e.2.1 ↔ x ∈ B) := fun x ix => by
        constructor
        · rintro ⟨K, hK, h1, h2⟩
          rw [hF.one mB hK iv.2.2.2 hv h2]; exact h1
        · intro hx; exact ⟨B, mB, hx, hv⟩
      have sy : ∀ x y, Same rings x y ↔ Same rings y x := fun x y => ⟨fun ⟨K, a, b, c⟩ => ⟨K, a, c, b⟩, fun ⟨K, a, b, c⟩ => ⟨K, a, c, b⟩⟩
      rw [sA a ia, sB a ia, sy e.2.1 b, sB b ib, sy e.1 b, sA b ib]
      have hs : Same rings a b ↔ (a ∈ A ∧ b ∈ A) ∨ (a ∈ B ∧ b ∈ B) ∨ ∃ K ∈ rest, a ∈ K ∧ b ∈ K := by
        rw [Same.perm q4]
        simp only [Same, List.mem_cons, exists_eq_or_imp]
      have hz : Same (plain (linkAll n A B e.1 e.2.1) :: rest) a b ↔ ((a ∈ A ∨ a ∈ B) ∧ (b ∈ A ∨ b ∈ B)) ∨ ∃ K ∈ rest, a ∈ K ∧ b ∈ K := by
        simp only [Same, List.mem_cons, exists_eq_or_imp, pmem a ia, pmem b ib]
      rw [hs, hz]
      constructor
      · rintro (⟨h1 | h1, h2 | h2⟩ | h)
        · exact .inl (.inl ⟨h1, h2⟩)
        · exact .inr (.inl ⟨h1, h2⟩)
        · exact .inr (.inr ⟨h1, h2⟩)
        · exact .inl (.inr (.inl ⟨h1, h2⟩))
        · exact .inl (.inr (.inr h))
      · rintro ((⟨h1, h2⟩ | ⟨h1, h2⟩ | h) | ⟨h1, h2⟩ | ⟨h1, h2⟩)
        · exact .inl ⟨.inl h1, .inl h2⟩
        · exact .inl ⟨.inr h1, .inr h2⟩
        · exact .inr h
        · exact .inl ⟨.inl h1, .inr h2⟩
        · exact .inl ⟨.inr h1, .inl h2⟩
    · have old : ∀ K ∈ rings, arcT n x y ∈ K → ∃ e' ∈ l ++ [e], (e'.1 = x ∧ e'.2.1 = y) ∨ (e'.1 = y ∧ e'.2.1 = x) := fun K hK hm => by
        obtain ⟨e', h1, h2⟩ := h.arcs K hK x y hxy hm
        exact ⟨e', by simp [h1], h2⟩
      rcases List.mem_cons.1 (q5.mem_iff.1 hK) with rfl | hK
      · rcases link_arcs gA.2.2.2 gB.2.2.2 hu hv iu iv q6 hxy (hrot.perm.mem_iff.2 hm) with g | g | ⟨g1, g2⟩ | ⟨g1, g2⟩
        · exact old A mA g
        · exact old B mB g
        · exact ⟨e, by simp, .inl ⟨g1.symm, g2.symm⟩⟩
        · exact ⟨e, by simp, .inr ⟨g2.symm, g1.symm⟩⟩
      · exact old K (q4.mem_iff.2 (by simp [hK])) hm

theorem FC_singles {N : Nat} (h1 : 1 ≤ N) (h2 : N ≤ 64) : FC (N : Int) (singles N) [] := by
  have hS : ∀ A ∈ singles N, ∃ k : Nat, k < N ∧ A = [(k : Int)] := fun A hA => by
    simp only [singles, List.mem_map, List.mem_range] at hA
    obtain ⟨k, hk, rfl⟩ := hA
    exact ⟨k, hk, rfl⟩
  have key : ∀ k, k < N → In (N : Int) (k : Int) := fun k hk => ⟨by omega, by omega, by omega, by omega⟩
  refine ⟨⟨⟨by omega, by omega⟩, fun l hl => ?_, ?_, ?_, fun v hv => ?_⟩, fun a b ia ib => ?_, fun A hA u v ho hm => ?_⟩
  · obtain ⟨k, hk, rfl⟩ := hS l hl
    refine ⟨⟨by simp, fun x hx => ?_, by simp⟩, by simp, rfl, (TI_one (N : Int) k).2 (key k hk)⟩
    simp only [List.mem_singleton] at hx
    omega
  · rw [singles, List.pairwise_map]
    exact List.pairwise_lt_range.imp fun h => by simp only [hd, List.headD_cons]; omega
  · rw [singles, List.pairwise_map]
    exact List.pairwise_lt_range.imp fun {a b} h t ht _ ht2 => by
      simp only [List.mem_singleton] at ht ht2
      omega
  · obtain ⟨k, rfl⟩ := Int.eq_ofNat_of_zero_le hv.2.2.1
    have := hv.2.2.2
    exact ⟨[(k : Int)], by simp only [singles, List.mem_map, List.mem_range]; exact ⟨k, by omega, rfl⟩, by simp⟩
  · constructor
    · rintro ⟨A, hA, h1, h2⟩
      obtain ⟨k, _, rfl⟩ := hS A hA
      simp only [List.mem_singleton] at h1 h2
      rw [h1, h2]
      exact .refl _
    · intro hc
      have := hc.nil
      subst this
      obtain ⟨k, rfl⟩ := Int.eq_ofNat_of_zero_le ia.2.2.1
      have := ia.2.2.2
      exact ⟨[(k : Int)], by simp only [singles, List.mem_map, List.mem_range]; exact ⟨k, by omega, rfl⟩, by simp, by simp⟩
  · obtain ⟨k, hk, rfl⟩ := hS A hA
    simp only [List.mem_singleton] at hm
    have := arc_ge ho
    omega

theorem ends_val (l : List Edge) (hs : l.length < 1073741824) : ends (l, ()) = some (l.flatMap fun e => [e.1, e.2.1], ()) := by
  rw [ends_eq, ends_d]
  have e := walkL (step := ends_s0) (fun i (a : List Int) => (a, l, dlen l, (i : Int), ())) l (fun x a => .inl (a ++ [x.1, x.2.1])) (fun a => .inl (a, ())) (fun i a => a.length = 2 * i) (by omega)
    (fun i x a hi hx h1 => by
      refine ⟨fun m' h' => ?_, fun r h' => by cases h'⟩
      cases h'
      rw [ends_s0, dlen_l, ilt_nat, decide_eq_true hi]
      simp only [idx_some hx]
      rw [wrap_add1 (by omega), fits_l (by simp only [dlen_l, List.length_cons, List.length_nil]; omega)]
      exact ⟨rfl, by simp; omega⟩)
    (fun a _ => by rw [ends_s0, dlen_l, ilt_nat, decide_eq_false (by omega)]) [] rfl
  have e' : iterL ends_s0 many ([], l, dlen l, (0 : Int), ()) = _ := e
  rw [e', walk_fold]
  have hf : ∀ (xs : List Edge) (acc : List Int), xs.foldl (fun a x => a ++ [x.1, x.2.1]) acc = acc ++ xs.flatMap fun e => [e.1, e.2.1] := by
    intro xs
    induction xs with
    | nil => intro acc; simp
    | cons x xs ih => intro acc; rw [List.foldl_cons, ih, List.flatMap_cons]; simp
  rw [hf]
  rfl

theorem ends_all (n : Int) (l : List Edge) : ((l.flatMap fun e => [e.1, e.2.1]).all fun v => decide (In n v)) = l.all fun e => decide (In n e.1 ∧ In n e.2.1) := by
  induction l with
  | nil => rfl
  | cons e l ih =>
    rw [List.flatMap_cons, List.all_append, List.all_cons, ih]
    simp

theorem ends_len (l : List Edge) : (l.flatMap fun e => [e.1, e.2.1]).length = 2 * l.length := by
  induction l with
  | nil => rfl
  | cons e l ih => rw [List.flatMap_cons, List.length_append, ih]; simp; omega

theorem links_loop {n : Int} (l : List Edge) (hs : l.length < 1073741824) (ha : ∀ e ∈ l, In n e.1 ∧ In n e.2.1) :
    ∀ (m i cnt : Nat) (rings : List (List Int)) (taken : List Bool), i + m = l.length → taken.length = i → FC n rings (l.take i) → m < cnt →
    ∃ zs taken', iterO eachLink_s0 cnt (n, rings, (0 : Int), taken, l, (l.length : Int), (i : Int), ()) = some (.inl (n, zs, (0 : Int), taken', ())) ∧ FC n zs l ∧ taken'.length = l.length := by
  intro m
  induction m with
  | zero =>
    intro i cnt rings taken hi ht h hc
    obtain ⟨cnt, rfl⟩ : ∃ c, cnt = c + 1 := ⟨cnt - 1, by omega⟩
    rw [List.take_of_length_le (by omega)] at h
    refine ⟨rings, taken, ?_, h, by omega⟩
    rw [iterO, eachLink_s0, ilt_nat, decide_eq_false (by omega)]
  | succ m ih =>
    intro i cnt rings taken hi ht h hc
    obtain ⟨cnt, rfl⟩ : ∃ c, cnt = c + 1 := ⟨cnt - 1, by omega⟩
    have hi' : i < l.length := by omega
    have hx : l[i]? = some l[i] := List.getElem?_eq_getElem hi'
    obtain ⟨iu, iv⟩ := ha _ (List.getElem_mem hi')
    obtain ⟨zs, q, e1, e2, _⟩ := FC_link h iu iv
    rw [iterO, eachLink_s0, ilt_nat, decide_eq_true hi']
    simp only [idx_some hx, e1]
    rw [wrap_add1 (by omega), fits_l (by simp only [dlen_l, List.length_cons, List.length_nil]; omega)]
    rw [← List.take_succ_eq_append_getElem hi'] at e2
    exact ih (i + 1) cnt zs _ (by omega) (by simp [dapp_l, ht]) e2 (by omega)

/-- a forest of edges, or none -/
theorem fof_val (k : Int) (l : List Edge) (hk : Sz k) (hs : l.length < 1073741824) :
    ((∀ e ∈ l, In k e.1 ∧ In k e.2.1) ∧ ∃ rings, fof (k, l, ()) = some ((k, (rings, ())), 0, ()) ∧ FC k rings l) ∨
    (¬ (∀ e ∈ l, In k e.1 ∧ In k e.2.1) ∧ fof (k, l, ()) = some ((0, ([], ())), 10, ())) := by
  have hmany : 9223372036854775808 < many := by simp only [many]; omega
  rw [fof_eq, fof_d]
  have hm : makeOut k = (k, singles k.toNat, 0, ()) := by rw [makeOut, if_pos hk]
  obtain ⟨s1, s2⟩ := hk
  obtain ⟨N, rfl⟩ := Int.eq_ofNat_of_zero_le (show 0 ≤ k by omega)
  have h0 := FC_singles (N := N) (by omega) (by omega)
  have hD := h0.fr.dom
  have hRF := RF_iff.2 h0.fr
  have hfl := ends_len l
  have hth : fthere (((N : Int), (singles N, ())), l.flatMap fun e => [e.1, e.2.1], ()) = some (if ∀ e ∈ l, In (N : Int) e.1 ∧ In (N : Int) e.2.1 then 0 else 10, ()) := by
    rw [fthere_val _ _ _ hD (by omega), ends_all, askE, if_pos hRF]
    by_cases ha : ∀ e ∈ l, In (N : Int) e.1 ∧ In (N : Int) e.2.1
    · rw [if_pos ha, if_pos (List.all_eq_true.2 fun e he => decide_eq_true (ha e he))]
    · rw [if_neg ha, if_neg]
      intro hc
      exact ha fun e he => of_decide_eq_true (List.all_eq_true.1 hc e he)
  simp only [tmake_val, hm, Int.toNat_natCast, ieq_self, Bool.not_true]
  rw [flinks_eq, flinks_d, eachLink_eq, eachLink_d]
  by_cases ha : ∀ e ∈ l, In (N : Int) e.1 ∧ In (N : Int) e.2.1
  · refine .inl ⟨ha, ?_⟩
    rw [if_pos ha] at hth
    obtain ⟨zs, taken, e1, e2, _⟩ := links_loop l hs ha l.length 0 many (singles N) [] (by omega) rfl (by rw [List.take_zero]; exact h0) (by omega)
    have e1' : iterO eachLink_s0 many ((N : Int), singles N, (0 : Int), [], l, (l.length : Int), (0 : Int), ()) = _ := e1
    simp only [ends_val l hs, hth, ieq_self, Bool.not_true, iterL_eq, dlen_l, e1']
    exact ⟨zs, rfl, e2⟩
  · refine .inr ⟨ha, ?_⟩
    rw [if_neg ha] at hth
    simp only [ends_val l hs, hth, ieq_dec]
    rfl
end Go.Pev.Pl
end
section
/- The document's classes: of each vertex the least one that edges lead to. -/
namespace Go.Pev.Pl
open Tok

/-- a vertex's class -/
def cl (out : List Int) (v : Int) : Int := out.getD v.toNat 0
/-- what the document's classes are -/
structure ClOK (n : Int) (l : List Edge) (out : List Int) : Prop where
  len : (out.length : Int) = n
  same : ∀ a b, In n a → In n b → (cl out a = cl out b ↔ Con l a b)
  isin : ∀ a, In n a → In n (cl out a)
  con : ∀ a, In n a → Con l a (cl out a)
  least : ∀ a b, In n a → In n b → Con l a b → cl out a ≤ b

end Go.Pev.Pl
end
section
/- The sort by a compare function. -/
namespace Go.Pev.Pl.SE
open Go.Sort
/-- any edges -/
def ok (_ : Int × Int × Unit) : Prop := True
def okz : Int × Int × Unit := (0, 0, ())
theorem okz_ok : ok okz := trivial
def lt (x y : Int × Int × Unit) : Bool := decide (x.1 < y.1 ∨ (x.1 = y.1 ∧ x.2.1 < y.2.1))
theorem swo : SWO lt := ⟨fun x => by simp [lt], fun x y z h1 h2 => by simp only [lt, decide_eq_true_eq] at *; omega, fun x y z h1 h2 => by simp only [lt, decide_eq_false_iff_not] at *; omega⟩
theorem eta3 (x : Int × Int × Unit) : (x.1, (x.2.1, ())) = x := rfl
theorem compare_val (a b : Int) : compareI (a, b, ()) = some (if a < b then -1 else if b < a then 1 else 0, ()) := by
  rw [compareI_eq, compareI_d, nanI_eq, nanI_d, nanI_eq, nanI_d]
  simp only [ieq_eq, ilt_eq]
  by_cases h : a < b
  · simp [h]
  · by_cases h2 : b < a
    · simp [h, h2]
    · simp [h, h2]
theorem or_val (a b : Int) : orI ([a, b], ()) = some (if a = 0 then b else a, ()) := by
  obtain ⟨m, hm⟩ : ∃ m, many = m + 3 := ⟨many - 3, by simp only [many]⟩
  rw [orI_eq, orI_d, iterL_eq, hm]
  have i0 : idx [a, b] (0 : Int) = some a := by rw [idx_eq]; rfl
  have i1 : idx [a, b] (1 : Int) = some b := by rw [idx_eq]; rfl
  have l2 : dlen [a, b] = (2 : Int) := rfl
  have w1 : IntKind.wrap .i64 ((0 : Int) + 1) = 1 := by rw [wrap_in (by omega)]; rfl
  have w2 : IntKind.wrap .i64 ((1 : Int) + 1) = 2 := by rw [wrap_in (by omega)]; rfl
  have c0 : ilt (0 : Int) 2 = true := by rw [ilt_eq]; rfl
  have c1 : ilt (1 : Int) 2 = true := by rw [ilt_eq]; rfl
  have c2 : ilt (2 : Int) 2 = false := by rw [ilt_eq]; rfl
  by_cases ha : a = 0
  · subst ha
    by_cases hb : b = 0
    · subst hb
      have z : ieq (0 : Int) 0 = true := by rw [ieq_eq]; rfl
      simp only [iterO, orI_s0, l2, i0, i1, w1, w2, c0, c1, c2, z, Bool.not_true, if_true]
    · have : ieq b 0 = false := by rw [ieq_eq]; simpa using hb
      have z : ieq (0 : Int) 0 = true := by rw [ieq_eq]; rfl
      simp only [iterO, orI_s0, l2, i0, i1, w1, w2, c0, c1, c2, z, this, Bool.not_true, Bool.not_false, if_true]
  · have : ieq a 0 = false := by rw [ieq_eq]; simpa using ha
    simp only [iterO, orI_s0, l2, i0, i1, w1, w2, c0, c1, c2, this, ha, Bool.not_false, if_false]
theorem cmp_ok {x y : Int × Int × Unit} (_ : ok x) (_ : ok y) : ∃ c, edges1 (x, y, ()) = some (c, ()) ∧ ilt c (0 : Int) = lt x y := by
  rw [edges1_eq, edges1_d]
  simp only [compare_val, or_val, ilt_eq, lt]
  refine ⟨_, rfl, ?_⟩
  apply decide_eq_decide.2
  by_cases h1 : x.1 < y.1
  · simp [h1]
  · by_cases h2 : y.1 < x.1
    · have h3 : ¬ x.1 = y.1 := by omega
      simp [h1, h2, h3]
    · have h3 : x.1 = y.1 := by omega
      by_cases h4 : x.2.1 < y.2.1
      · simp [h3, h4]
      · by_cases h5 : y.2.1 < x.2.1
        · simp [h3, h4, h5]
        · simp [h3, h4, h5]

abbrev EL := {x : Int × Int × Unit // ok x}
instance : Inhabited EL := ⟨⟨okz, okz_ok⟩⟩
def rep (d : Array EL) : List (Int × Int × Unit) := d.toList.map Subtype.val
theorem idx_at {d : Array EL} {n : Nat} (h : n < d.size) : idx (rep d) (n : Int) = some (d[n]!).val := by
  rw [idx_eq, idxR, if_neg (by omega)]
  simp [rep, h]
theorem dget_at {d : Array EL} {n : Nat} {z : Int × Int × Unit} (h : n < d.size) : dget (rep d) (dnat (n : Int)) z = (d[n]!).val := by
  simp [dget, dnat, rep, h]
theorem dset_at {d : Array EL} {n : Nat} {x : EL} : dset (rep d) (dnat (n : Int)) x.val = rep (d.setIfInBounds n x) := by
  simp [dset, dnat, rep, List.map_set]
theorem dlen_at {d : Array EL} : dlen (rep d) = (d.size : Int) := by simp [dlen, rep]
def ltX (x y : EL) : Bool := lt x.val y.val
theorem swoX : SWO ltX := ⟨fun x => swo.irrefl x.val, fun x y z => swo.trans x.val y.val z.val, fun x y z => swo.ntrans x.val y.val z.val⟩
noncomputable def cmpX (x y : EL) : Int := match edges1 (x.val, y.val, ()) with
  | some (c, _) => c
  | none => 0
theorem less_val (x y : EL) : edges1 (x.val, y.val, ()) = some (cmpX x y, ()) := by
  obtain ⟨c, e, _⟩ := cmp_ok x.property y.property
  rw [cmpX, e]
theorem less_lt (x y : EL) : ilt (cmpX x y) (0 : Int) = ltX x y := by
  obtain ⟨c, e, h⟩ := cmp_ok x.property y.property
  rw [cmpX, e]
  exact h
theorem insE_in (a b i : Nat) : ∀ (j : Nat) (d : Array EL) (n : Nat), j < d.size → d.size < 4611686018427387904 → j < n →
    iterO insE_s1 n ((rep d), (a : Int), (b : Int), (i : Int), (j : Int), ()) = some (.inl ((rep (insInner ltX a j d)), (a : Int), (b : Int), (i : Int), ())) := by
  intro j
  induction j with
  | zero =>
    intro d n hj hs hn
    obtain ⟨n, rfl⟩ : ∃ k, n = k + 1 := ⟨n - 1, by omega⟩
    have h0 : ilt (a : Int) ((0 : Nat) : Int) = false := by rw [ilt_nat]; simp
    simp only [iterO, insE_s1, h0, insInner]
  | succ j ih =>
    intro d n hj hs hn
    obtain ⟨n, rfl⟩ : ∃ k, n = k + 1 := ⟨n - 1, by omega⟩
    have e1 : IntKind.wrap .i64 (((j + 1 : Nat) : Int) - 1) = (j : Int) := by rw [wrap_in (by omega)]; omega
    have hj' : j < d.size := by omega
    simp only [iterO, insE_s1, ilt_nat, e1, idx_at hj, idx_at hj', dget_at hj, dget_at hj', eta3, less_val, less_lt, insInner, gt_iff_lt]
    by_cases h1 : a < j + 1
    · cases h2 : ltX d[j + 1]! d[j]!
      · simp only [h1, decide_true, h2, Bool.and_false, Bool.false_eq_true, if_false]
      · simp only [h1, decide_true, h2, Bool.and_true, if_true, eta3, dset_at]
        rw [idx_at (by simpa using hj')]
        simp only [swp_fold]
        exact ih (swp d (j + 1) j) n (by rw [size_swp]; omega) (by rw [size_swp]; omega) (by omega)
    · simp only [h1, decide_false, Bool.false_and, Bool.false_eq_true, if_false]

theorem size_insInner (lt : EL → EL → Bool) (a j : Nat) (d : Array EL) : (insInner lt a j d).size = d.size := by
  induction j generalizing d with
  | zero => rfl
  | succ j ih =>
    rw [insInner]
    split
    · rw [ih, size_swp]
    · rfl

theorem insE_out (a b : Nat) : ∀ (k i : Nat) (d : Array EL) (n : Nat), b - i = k → b ≤ d.size → d.size < 4611686018427387904 → d.size < many → k < n →
    iterO insE_s0 n ((rep d), (a : Int), (b : Int), (i : Int), ()) = some (.inl ((rep (insOuter ltX a b i d)), ())) := by
  intro k
  induction k with
  | zero =>
    intro i d n hk hb hs hm hn
    obtain ⟨n, rfl⟩ : ∃ k, n = k + 1 := ⟨n - 1, by omega⟩
    have h0 : ¬ i < b := by omega
    rw [insOuter]
    simp only [iterO, insE_s0, ilt_nat, h0, decide_false, if_false]
  | succ k ih =>
    intro i d n hk hb hs hm hn
    obtain ⟨n, rfl⟩ : ∃ k, n = k + 1 := ⟨n - 1, by omega⟩
    have h0 : i < b := by omega
    have e1 : IntKind.wrap .i64 ((i : Int) + 1) = ((i + 1 : Nat) : Int) := by rw [wrap_in (by omega)]; omega
    rw [insOuter]
    simp only [iterO, insE_s0, ilt_nat, h0, decide_true, if_true, iterL_eq]
    rw [insE_in a b i i d many (by omega) hs (by omega)]
    simp only [e1]
    exact ih (i + 1) _ n (by omega) (by rw [size_insInner]; omega) (by rw [size_insInner]; omega) (by rw [size_insInner]; omega) (by omega)

theorem insE_val (d : Array EL) (a b : Nat) (hab : a ≤ b) (hb : b ≤ d.size) (hs : d.size < 4294967296) : insE ((rep d), (a : Int), (b : Int), ()) = some ((rep (insertionSort ltX d a b)), ()) := by
  have hm : d.size < many := by simp only [many]; omega
  have e1 : IntKind.wrap .i64 ((a : Int) + 1) = ((a + 1 : Nat) : Int) := by rw [wrap_in (by omega)]; omega
  rw [insE_eq, insE_d]
  simp only [e1, iterL_eq]
  rw [insE_out a b (b - (a + 1)) (a + 1) d many rfl hb (by omega) hm (by omega)]
  rfl
end Go.Pev.Pl.SE
end
section
namespace Go.Pev.Pl.SE
open Go.Sort
theorem siftE_loop (hi first : Nat) : ∀ (k root : Nat) (d : Array EL) (n : Nat), hi - root = k → root ≤ hi → first + hi ≤ d.size → d.size < 4294967296 → (hi = 0 ∨ root < hi) → k < n →
    iterO siftE_s0 n ((rep d), (hi : Int), (first : Int), (root : Int), ()) = some (.inl ((rep (siftDown ltX hi first root d)), ())) ∨
    iterO siftE_s0 n ((rep d), (hi : Int), (first : Int), (root : Int), ()) = some (.inr (.inl ((rep (siftDown ltX hi first root d)), ()))) := by
  intro k
  induction k using Nat.strongRecOn with
  | _ k ih =>
  intro root d n hk hr hf hs hz hn
  obtain ⟨n, rfl⟩ : ∃ k, n = k + 1 := ⟨n - 1, by omega⟩
  rw [siftDown]
  simp (disch := omega) only [iterO, siftE_s0, wrap_2mul, wrap_add1, wrap_add, ile_nat, ilt_nat]
  by_cases h1 : hi ≤ 2 * root + 1
  · simp only [h1, decide_true, ge_iff_le, dite_true, true_or]
  · have i0 : first + root < d.size := by omega
    have i1 : first + (2 * root + 1) < d.size := by omega
    simp only [h1, decide_false, ge_iff_le, if_false, dite_false]
    simp (disch := omega) only [idx_at, dget_at, eta3, less_val, less_lt]
    by_cases h2 : 2 * root + 1 + 1 < hi
    · have i2 : first + (2 * root + 2) < d.size := by omega
      have i3 : 2 * root + 1 + 1 = 2 * root + 2 := by omega
      have i4 : first + (2 * root + 1) + 1 = first + (2 * root + 2) := by omega
      have h3 : 2 * root + 2 < hi := by omega
      simp only [i3, i4, h3, decide_true]
      simp (disch := omega) only [idx_at, dget_at, eta3, less_val, less_lt, eta3, dset_at]
      cases h4 : ltX d[first + (2 * root + 1)]! d[first + (2 * root + 2)]!
      · simp only [Bool.and_false, Bool.false_eq_true, if_false]
        cases h5 : ltX d[first + root]! d[first + (2 * root + 1)]!
        · simp
        · simp only [Bool.not_true, Bool.false_eq_true, if_false]
          rw [idx_at (by simpa using i1)]
          simp only [swp_fold]
          exact ih (hi - (2 * root + 1)) (by omega) (2 * root + 1) _ n rfl (by omega) (by rw [size_swp]; omega) (by rw [size_swp]; omega) (by omega) (by omega)
      · simp only [Bool.and_true, if_true]
        cases h5 : ltX d[first + root]! d[first + (2 * root + 2)]!
        · simp
        · simp only [Bool.not_true, Bool.false_eq_true, if_false, dite_true]
          rw [idx_at (by simpa using i2)]
          simp only [swp_fold]
          exact ih (hi - (2 * root + 2)) (by omega) (2 * root + 2) _ n rfl (by omega) (by rw [size_swp]; omega) (by rw [size_swp]; omega) (by omega) (by omega)
    · simp only [h2, decide_false, Bool.false_and, Bool.false_eq_true, if_false, eta3, dset_at]
      cases h5 : ltX d[first + root]! d[first + (2 * root + 1)]!
      · simp
      · simp only [Bool.not_true, Bool.false_eq_true, if_false]
        rw [idx_at (by simpa using i1)]
        simp only [swp_fold]
        exact ih (hi - (2 * root + 1)) (by omega) (2 * root + 1) _ n rfl (by omega) (by rw [size_swp]; omega) (by rw [size_swp]; omega) (by omega) (by omega)

theorem siftE_val (d : Array EL) (root hi first : Nat) (hf : first + hi ≤ d.size) (hs : d.size < 4294967296) (hz : hi = 0 ∧ root = 0 ∨ root < hi) : siftE ((rep d), (root : Int), (hi : Int), (first : Int), ()) = some ((rep (siftDown ltX hi first root d)), ()) := by
  have hm : d.size < many := by simp only [many]; omega
  rw [siftE_eq, siftE_d]
  simp only [iterL_eq]
  rcases siftE_loop hi first (hi - root) root d many rfl (by omega) hf hs (by omega) (by omega) with h | h <;> rw [h]

theorem size_siftDown (lt : EL → EL → Bool) (hi first : Nat) : ∀ (k root : Nat) (d : Array EL), hi - root = k → (siftDown lt hi first root d).size = d.size := by
  intro k
  induction k using Nat.strongRecOn with
  | _ k ih =>
  intro root d hk
  rw [siftDown]
  split
  · rfl
  · split
    · split
      · rfl
      · split
        · rw [ih (hi - (2 * root + 2)) (by omega) _ _ rfl, size_swp]
        · rfl
    · split
      · rfl
      · rw [ih (hi - (2 * root + 1)) (by omega) _ _ rfl, size_swp]

theorem heapE_build (hi first : Nat) : ∀ (k : Nat) (d : Array EL) (n : Nat), (hi = 0 ∧ k ≤ 1 ∨ k ≤ hi) → first + hi ≤ d.size → d.size < 4294967296 → k < n →
    iterO heapE_s0 n ((rep d), (first : Int), (0 : Int), (hi : Int), (k : Int) - 1, ()) = some (.inl ((rep (heapBuild ltX hi first k d)), (first : Int), (0 : Int), (hi : Int), ())) := by
  intro k
  induction k with
  | zero =>
    intro d n hk hf hs hn
    obtain ⟨n, rfl⟩ : ∃ k, n = k + 1 := ⟨n - 1, by omega⟩
    rw [iterO, heapE_s0, ile_eq, decide_eq_false (by omega)]
    rfl
  | succ k ih =>
    intro d n hk hf hs hn
    obtain ⟨n, rfl⟩ : ∃ k, n = k + 1 := ⟨n - 1, by omega⟩
    have e0 : ((k + 1 : Nat) : Int) - 1 = (k : Int) := by omega
    rw [iterO, heapE_s0, e0, ile_eq, decide_eq_true (by omega)]
    simp only [siftE_val d k hi first hf hs (by omega)]
    rw [wrap_in (by omega)]
    exact ih _ n (by omega) (by rw [size_siftDown _ _ _ _ _ _ rfl]; omega) (by rw [size_siftDown _ _ _ _ _ _ rfl]; omega) (by omega)

theorem size_heapBuild (lt : EL → EL → Bool) (hi first : Nat) : ∀ (k : Nat) (d : Array EL), (heapBuild lt hi first k d).size = d.size := by
  intro k
  induction k with
  | zero => intro d; rfl
  | succ k ih => intro d; rw [heapBuild, ih, size_siftDown _ _ _ _ _ _ rfl]

theorem heapE_pop (first : Nat) : ∀ (k : Nat) (d : Array EL) (n : Nat), first + k ≤ d.size → d.size < 4294967296 → k < n →
    iterO heapE_s1 n ((rep d), (first : Int), (0 : Int), (k : Int) - 1, ()) = some (.inl ((rep (heapPop ltX first k d)), ())) := by
  intro k
  induction k with
  | zero =>
    intro d n hf hs hn
    obtain ⟨n, rfl⟩ : ∃ k, n = k + 1 := ⟨n - 1, by omega⟩
    rw [iterO, heapE_s1, ile_eq, decide_eq_false (by omega)]
    rfl
  | succ k ih =>
    intro d n hf hs hn
    obtain ⟨n, rfl⟩ : ∃ k, n = k + 1 := ⟨n - 1, by omega⟩
    have e0 : ((k + 1 : Nat) : Int) - 1 = (k : Int) := by omega
    have i0 : first < d.size := by omega
    have i1 : first + k < d.size := by omega
    rw [iterO, heapE_s1, e0, ile_eq, decide_eq_true (by omega)]
    simp (disch := omega) only [wrap_add, idx_at, dget_at, eta3, dset_at]
    rw [idx_at (by simpa using i1)]
    simp only [swp_fold]
    have := siftE_val (swp d first (first + k)) 0 k first (by rw [size_swp]; omega) (by rw [size_swp]; omega) (by omega)
    simp only [Int.natCast_zero] at this
    simp only [this]
    rw [wrap_in (by omega)]
    exact ih _ n (by rw [size_siftDown _ _ _ _ _ _ rfl, size_swp]; omega) (by rw [size_siftDown _ _ _ _ _ _ rfl, size_swp]; omega) (by omega)

theorem heapE_val (d : Array EL) (a b : Nat) (hab : a < b) (hb : b ≤ d.size) (hs : d.size < 4294967296) : heapE ((rep d), (a : Int), (b : Int), ()) = some ((rep (heapSort ltX d a b)), ()) := by
  have hm : 4294967296 < many := by simp only [many]; omega
  rw [heapE_eq, heapE_d]
  simp (disch := omega) only [wrap_sub, wrap_sub1, quo_2, iterL_eq]
  have e : (((b - a - 1) / 2 : Nat) : Int) = (((b - a - 1) / 2 + 1 : Nat) : Int) - 1 := by omega
  rw [e, heapE_build (b - a) a _ d many (by omega) (by omega) hs (by omega)]
  have e2 : (((b - a - 1 : Nat)) : Int) = ((b - a : Nat) : Int) - 1 := by omega
  simp (disch := omega) only [wrap_sub1, e2]
  rw [heapE_pop a (b - a) _ many (by rw [size_heapBuild]; omega) (by rw [size_heapBuild]; omega) (by omega)]
  rfl
end Go.Pev.Pl.SE
end
section
namespace Go.Pev.Pl.SE
open Go.Sort
theorem revE_loop : ∀ (k i j : Nat) (d : Array EL) (n : Nat), j - i = k → (j < d.size) → d.size < 4294967296 → k < n →
    iterO revE_s0 n ((rep d), (i : Int), (j : Int), ()) = some (.inl ((rep (reverseLoop i j d)), ())) := by
  intro k
  induction k using Nat.strongRecOn with
  | _ k ih =>
  intro i j d n hk hj hs hn
  obtain ⟨n, rfl⟩ : ∃ k, n = k + 1 := ⟨n - 1, by omega⟩
  rw [reverseLoop, iterO, revE_s0]
  simp only [ilt_nat]
  by_cases h : i < j
  · have hi : i < d.size := by omega
    simp only [h, decide_true, if_true, idx_at hj, idx_at hi, dget_at hi, dget_at hj, eta3, dset_at]
    rw [idx_at (by simpa using hj)]
    simp (disch := omega) only [swp_fold, wrap_add1, wrap_sub1]
    exact ih (j - 1 - (i + 1)) (by omega) (i + 1) (j - 1) _ n rfl (by rw [size_swp]; omega) (by rw [size_swp]; omega) (by omega)
  · simp only [h, decide_false, if_false]

theorem revE_val (d : Array EL) (a b : Nat) (hab : a < b) (hb : b ≤ d.size) (hs : d.size < 4294967296) : revE ((rep d), (a : Int), (b : Int), ()) = some ((rep (reverseRange d a b)), ()) := by
  have hm : 4294967296 < many := by simp only [many]; omega
  rw [revE_eq, revE_d]
  simp (disch := omega) only [wrap_sub1, iterL_eq]
  rw [revE_loop (b - 1 - a) a (b - 1) d many rfl (by omega) hs (by omega)]
  rfl

theorem swapE {d : Array EL} {i j : Nat} (hi : i < d.size) (hj : j < d.size) : idx (dset (rep d) (dnat (i : Int)) (dget (rep d) (dnat (j : Int)) ((0 : Int), ((0 : Int), ())))) (j : Int) = some ((d.setIfInBounds i d[j]!)[j]!).val ∧
    dset (dset (rep d) (dnat (i : Int)) (dget (rep d) (dnat (j : Int)) ((0 : Int), ((0 : Int), ())))) (dnat (j : Int)) (dget (rep d) (dnat (i : Int)) ((0 : Int), ((0 : Int), ()))) = (rep (swp d i j)) := by
  rw [dget_at hi, dget_at hj, dset_at, dset_at]
  exact ⟨idx_at (by simpa using hj), rfl⟩

/- the scans -/
theorem scanUpE (step : List (Int × Int × Unit) × Int × Int × Int × Unit → Option ((List (Int × Int × Unit) × Int × Int × Int × Unit) ⊕ (List (Int × Int × Unit) × Int × Int × Int × Unit) ⊕ Unit)) (p : EL → Bool) (d : Array EL) (a j : Nat) (hs : d.size < 4294967296) (hj : j < d.size)
    (h : ∀ i : Nat, i ≤ d.size → step ((rep d), (a : Int), (i : Int), (j : Int), ()) = if i ≤ j ∧ p d[i]! then some (.inl ((rep d), (a : Int), ((i + 1 : Nat) : Int), (j : Int), ())) else some (.inr (.inl ((rep d), (a : Int), (i : Int), (j : Int), ())))) :
    ∀ (k i n : Nat), j + 1 - i = k → i ≤ d.size → k < n → iterO step n ((rep d), (a : Int), (i : Int), (j : Int), ()) = some (.inl ((rep d), (a : Int), ((scanUp p d j i : Nat) : Int), (j : Int), ())) := by
  intro k
  induction k using Nat.strongRecOn with
  | _ k ih =>
  intro i n hk hi hn
  obtain ⟨n, rfl⟩ : ∃ k, n = k + 1 := ⟨n - 1, by omega⟩
  rw [scanUp, iterO, h i hi]
  by_cases h1 : i ≤ j ∧ p d[i]! = true
  · rw [if_pos h1, if_pos (by simpa using h1)]
    exact ih (j + 1 - (i + 1)) (by omega) (i + 1) n rfl (by omega) (by omega)
  · rw [if_neg h1, if_neg (by simpa using h1)]

theorem scanDownE (step : List (Int × Int × Unit) × Int × Int × Int × Unit → Option ((List (Int × Int × Unit) × Int × Int × Int × Unit) ⊕ (List (Int × Int × Unit) × Int × Int × Int × Unit) ⊕ Unit)) (p : EL → Bool) (d : Array EL) (a i : Nat) (hi : 1 ≤ i)
    (h : ∀ j : Nat, j < d.size → step ((rep d), (a : Int), (i : Int), (j : Int), ()) = if i ≤ j ∧ p d[j]! then some (.inl ((rep d), (a : Int), (i : Int), ((j - 1 : Nat) : Int), ())) else some (.inr (.inl ((rep d), (a : Int), (i : Int), (j : Int), ())))) :
    ∀ (j n : Nat), j < d.size → j < n → iterO step n ((rep d), (a : Int), (i : Int), (j : Int), ()) = some (.inl ((rep d), (a : Int), (i : Int), ((scanDown p d i j : Nat) : Int), ())) := by
  intro j
  induction j with
  | zero =>
    intro n hj hn
    obtain ⟨n, rfl⟩ : ∃ k, n = k + 1 := ⟨n - 1, by omega⟩
    rw [iterO, h 0 hj, if_neg (by omega)]
    rfl
  | succ j ih =>
    intro n hj hn
    obtain ⟨n, rfl⟩ : ∃ k, n = k + 1 := ⟨n - 1, by omega⟩
    rw [scanDown, iterO, h (j + 1) hj]
    by_cases h1 : i ≤ j + 1 ∧ p d[j + 1]! = true
    · rw [if_pos h1, if_pos (by simpa using h1)]
      exact ih n (by omega) (by omega)
    · rw [if_neg h1, if_neg (by simpa using h1)]

section
variable (d : Array EL) (a i j : Nat) (hs : d.size < 4294967296) (ha : a < d.size) (hj : j < d.size)
include hs ha hj
theorem partE_s0_at (hi : i ≤ d.size) : partE_s0 ((rep d), (a : Int), (i : Int), (j : Int), ()) = if i ≤ j ∧ (fun x => ltX x d[a]!) d[i]! = true then some (.inl ((rep d), (a : Int), ((i + 1 : Nat) : Int), (j : Int), ())) else some (.inr (.inl ((rep d), (a : Int), (i : Int), (j : Int), ()))) := by
  rw [partE_s0]
  simp only [ile_nat]
  by_cases h : i ≤ j
  · have hi' : i < d.size := by omega
    simp (disch := omega) only [h, decide_true, idx_at, dget_at, eta3, less_val, less_lt, wrap_add1, true_and]
    cases ltX d[i]! d[a]! <;> simp
  · simp only [h, decide_false, false_and, if_false]
theorem partE_s3_at (hi : i ≤ d.size) : partE_s3 ((rep d), (a : Int), (i : Int), (j : Int), ()) = if i ≤ j ∧ (fun x => ltX x d[a]!) d[i]! = true then some (.inl ((rep d), (a : Int), ((i + 1 : Nat) : Int), (j : Int), ())) else some (.inr (.inl ((rep d), (a : Int), (i : Int), (j : Int), ()))) := by
  rw [partE_s3]
  simp only [ile_nat]
  by_cases h : i ≤ j
  · have hi' : i < d.size := by omega
    simp (disch := omega) only [h, decide_true, idx_at, dget_at, eta3, less_val, less_lt, wrap_add1, true_and]
    cases ltX d[i]! d[a]! <;> simp
  · simp only [h, decide_false, false_and, if_false]
theorem partE_s1_at (hi : 1 ≤ i) : partE_s1 ((rep d), (a : Int), (i : Int), (j : Int), ()) = if i ≤ j ∧ (fun x => !ltX x d[a]!) d[j]! = true then some (.inl ((rep d), (a : Int), (i : Int), ((j - 1 : Nat) : Int), ())) else some (.inr (.inl ((rep d), (a : Int), (i : Int), (j : Int), ()))) := by
  rw [partE_s1]
  simp only [ile_nat]
  by_cases h : i ≤ j
  · simp (disch := omega) only [h, decide_true, idx_at, dget_at, eta3, less_val, less_lt, wrap_sub1, true_and]
    cases ltX d[j]! d[a]! <;> simp
  · simp only [h, decide_false, false_and, if_false]
theorem partE_s4_at (hi : 1 ≤ i) : partE_s4 ((rep d), (a : Int), (i : Int), (j : Int), ()) = if i ≤ j ∧ (fun x => !ltX x d[a]!) d[j]! = true then some (.inl ((rep d), (a : Int), (i : Int), ((j - 1 : Nat) : Int), ())) else some (.inr (.inl ((rep d), (a : Int), (i : Int), (j : Int), ()))) := by
  rw [partE_s4]
  simp only [ile_nat]
  by_cases h : i ≤ j
  · simp (disch := omega) only [h, decide_true, idx_at, dget_at, eta3, less_val, less_lt, wrap_sub1, true_and]
    cases ltX d[j]! d[a]! <;> simp
  · simp only [h, decide_false, false_and, if_false]
theorem partEqE_s1_at (hi : i ≤ d.size) : partEqE_s1 ((rep d), (a : Int), (i : Int), (j : Int), ()) = if i ≤ j ∧ (fun x => !ltX d[a]! x) d[i]! = true then some (.inl ((rep d), (a : Int), ((i + 1 : Nat) : Int), (j : Int), ())) else some (.inr (.inl ((rep d), (a : Int), (i : Int), (j : Int), ()))) := by
  rw [partEqE_s1]
  simp only [ile_nat]
  by_cases h : i ≤ j
  · have hi' : i < d.size := by omega
    simp (disch := omega) only [h, decide_true, idx_at, dget_at, eta3, less_val, less_lt, wrap_add1, true_and]
    cases ltX d[a]! d[i]! <;> simp
  · simp only [h, decide_false, false_and, if_false]
theorem partEqE_s2_at (hi : 1 ≤ i) : partEqE_s2 ((rep d), (a : Int), (i : Int), (j : Int), ()) = if i ≤ j ∧ (fun x => ltX d[a]! x) d[j]! = true then some (.inl ((rep d), (a : Int), (i : Int), ((j - 1 : Nat) : Int), ())) else some (.inr (.inl ((rep d), (a : Int), (i : Int), (j : Int), ()))) := by
  rw [partEqE_s2]
  simp only [ile_nat]
  by_cases h : i ≤ j
  · simp (disch := omega) only [h, decide_true, idx_at, dget_at, eta3, less_val, less_lt, wrap_sub1, true_and]
    cases ltX d[a]! d[j]! <;> simp
  · simp only [h, decide_false, false_and, if_false]
end

theorem scanUp_size (p : EL → Bool) (d : Array EL) (j i : Nat) (hj : j < d.size) (hi : i ≤ d.size) : scanUp p d j i ≤ d.size := by
  suffices h : ∀ (k i : Nat), j + 1 - i = k → i ≤ d.size → scanUp p d j i ≤ d.size from h _ i rfl hi
  intro k
  induction k using Nat.strongRecOn with
  | _ k ih =>
  intro i hk hi
  rw [scanUp]
  split
  · rename_i h
    have : i ≤ j := by simp at h; exact h.1
    exact ih (j + 1 - (i + 1)) (by omega) (i + 1) rfl (by omega)
  · exact hi

theorem partE_loop (a : Nat) : ∀ (k i j : Nat) (d : Array EL) (n : Nat), j + 1 - i = k → a < d.size → 1 ≤ i → i ≤ d.size → j < d.size → d.size < 4294967296 → k < n →
    iterO partE_s2 n ((rep d), (a : Int), (i : Int), (j : Int), ()) = some (.inl ((rep (partLoop ltX a i j d).2), (a : Int), (((partLoop ltX a i j d).1 : Nat) : Int), ())) ∧ (partLoop ltX a i j d).1 ≤ j ∧ (partLoop ltX a i j d).2.size = d.size := by
  intro k
  induction k using Nat.strongRecOn with
  | _ k ih =>
  intro i j d n hk ha hi hi' hj hs hn
  have hm : 4294967296 < many := by simp only [many]; omega
  obtain ⟨n, rfl⟩ : ∃ k, n = k + 1 := ⟨n - 1, by omega⟩
  rw [partLoop_eq, iterO, partE_s2]
  have u1 := scanUp_ge (fun x => ltX x d[a]!) d j i
  have u2 := scanUp_size (fun x => ltX x d[a]!) d j i hj hi'
  rw [iterL_eq, scanUpE _ (fun x => ltX x d[a]!) d a j hs hj (fun i h => partE_s3_at d a i j hs ha hj h) _ i many rfl hi' (by omega)]
  generalize scanUp (fun x => ltX x d[a]!) d j i = i2 at *
  have v1 := scanDown_le (fun x => !ltX x d[a]!) d i2 j
  simp only [iterL_eq]
  rw [scanDownE _ (fun x => !ltX x d[a]!) d a i2 (by omega) (fun j h => partE_s4_at d a i2 j hs ha h (by omega)) j many hj (by omega)]
  generalize scanDown (fun x => !ltX x d[a]!) d i2 j = j2 at *
  simp only [ilt_nat]
  by_cases h : j2 < i2
  · simp only [h, decide_true, gt_iff_lt, if_true]
    exact ⟨trivial, v1, trivial⟩
  · have hi2 : i2 < d.size := by omega
    have hj2 : j2 < d.size := by omega
    simp only [h, decide_false, gt_iff_lt, if_false, idx_at hi2, idx_at hj2, eta3, (swapE hi2 hj2).1, (swapE hi2 hj2).2]
    simp (disch := omega) only [wrap_add1, wrap_sub1]
    obtain ⟨q1, q2, q3⟩ := ih (j2 - 1 + 1 - (i2 + 1)) (by omega) (i2 + 1) (j2 - 1) (swp d i2 j2) n rfl (by rw [size_swp]; omega) (by omega) (by rw [size_swp]; omega) (by rw [size_swp]; omega) (by rw [size_swp]; omega) (by omega)
    exact ⟨q1, by omega, by rw [q3, size_swp]⟩

theorem partE_val (d : Array EL) (a b p : Nat) (ha : a ≤ p) (hp : p < b) (hb : b ≤ d.size) (hs : d.size < 4294967296) :
    partE ((rep d), (a : Int), (b : Int), (p : Int), ()) = some ((rep (partition ltX d a b p).2.2), (((partition ltX d a b p).1 : Nat) : Int), (partition ltX d a b p).2.1, ()) := by
  have hm : 4294967296 < many := by simp only [many]; omega
  have ha' : a < d.size := by omega
  have hp' : p < d.size := by omega
  rw [partE_eq, partE_d, partition]
  simp only [idx_at ha', idx_at hp', eta3, (swapE ha' hp').1, (swapE ha' hp').2]
  have hs' := hs
  rw [← size_swp d a p] at ha' hs' hb
  generalize swp d a p = d at *
  simp (disch := omega) only [wrap_add1, wrap_sub1, iterL_eq]
  have u1 := scanUp_ge (fun x => ltX x d[a]!) d (b - 1) (a + 1)
  have u2 := scanUp_size (fun x => ltX x d[a]!) d (b - 1) (a + 1) (by omega) (by omega)
  rw [scanUpE _ (fun x => ltX x d[a]!) d a (b - 1) hs' (by omega) (fun i h => partE_s0_at d a i (b - 1) hs' ha' (by omega) h) _ (a + 1) many rfl (by omega) (by omega)]
  generalize scanUp (fun x => ltX x d[a]!) d (b - 1) (a + 1) = i2 at *
  have v1 := scanDown_le (fun x => !ltX x d[a]!) d i2 (b - 1)
  simp only []
  rw [scanDownE _ (fun x => !ltX x d[a]!) d a i2 (by omega) (fun j h => partE_s1_at d a i2 j hs' ha' h (by omega)) (b - 1) many (by omega) (by omega)]
  generalize scanDown (fun x => !ltX x d[a]!) d i2 (b - 1) = j2 at *
  simp only [ilt_nat]
  have hj2 : j2 < d.size := by omega
  by_cases h : j2 < i2
  · simp only [h, decide_true, gt_iff_lt, if_true, idx_at ha', idx_at hj2, eta3, (swapE hj2 ha').1, (swapE hj2 ha').2]
  · have hi2 : i2 < d.size := by omega
    simp only [h, decide_false, gt_iff_lt, if_false, idx_at hi2, idx_at hj2, eta3, (swapE hi2 hj2).1, (swapE hi2 hj2).2]
    simp (disch := omega) only [wrap_add1, wrap_sub1]
    obtain ⟨q1, q2, q3⟩ := partE_loop a (j2 - 1 + 1 - (i2 + 1)) (i2 + 1) (j2 - 1) (swp d i2 j2) many rfl (by rw [size_swp]; omega) (by omega) (by rw [size_swp]; omega) (by rw [size_swp]; omega) (by rw [size_swp]; omega) (by omega)
    simp only [q1]
    rw [size_swp] at q3
    generalize partLoop ltX a (i2 + 1) (j2 - 1) (swp d i2 j2) = r at *
    have h1 : r.1 < r.2.size := by omega
    have h2 : a < r.2.size := by omega
    simp only [idx_at h1, idx_at h2, eta3, (swapE h1 h2).1, (swapE h1 h2).2]

theorem partEqE_loop (a : Nat) : ∀ (k i j : Nat) (d : Array EL) (n : Nat), j + 1 - i = k → a < d.size → 1 ≤ i → i ≤ d.size → j < d.size → d.size < 4294967296 → k < n →
    iterO partEqE_s0 n ((rep d), (a : Int), (i : Int), (j : Int), ()) = some (.inl ((rep (partEqLoop ltX a i j d).2), (((partEqLoop ltX a i j d).1 : Nat) : Int), ())) := by
  intro k
  induction k using Nat.strongRecOn with
  | _ k ih =>
  intro i j d n hk ha hi hi' hj hs hn
  have hm : 4294967296 < many := by simp only [many]; omega
  obtain ⟨n, rfl⟩ : ∃ k, n = k + 1 := ⟨n - 1, by omega⟩
  rw [partEqLoop_eq, iterO, partEqE_s0]
  have u1 := scanUp_ge (fun x => !ltX d[a]! x) d j i
  have u2 := scanUp_size (fun x => !ltX d[a]! x) d j i hj hi'
  rw [iterL_eq, scanUpE _ (fun x => !ltX d[a]! x) d a j hs hj (fun i h => partEqE_s1_at d a i j hs ha hj h) _ i many rfl hi' (by omega)]
  generalize scanUp (fun x => !ltX d[a]! x) d j i = i2 at *
  have v1 := scanDown_le (fun x => ltX d[a]! x) d i2 j
  simp only [iterL_eq]
  rw [scanDownE _ (fun x => ltX d[a]! x) d a i2 (by omega) (fun j h => partEqE_s2_at d a i2 j hs ha h (by omega)) j many hj (by omega)]
  generalize scanDown (fun x => ltX d[a]! x) d i2 j = j2 at *
  simp only [ilt_nat]
  by_cases h : j2 < i2
  · simp only [h, decide_true, gt_iff_lt, if_true]
  · have hi2 : i2 < d.size := by omega
    have hj2 : j2 < d.size := by omega
    simp only [h, decide_false, gt_iff_lt, if_false, idx_at hi2, idx_at hj2, eta3, (swapE hi2 hj2).1, (swapE hi2 hj2).2]
    simp (disch := omega) only [wrap_add1, wrap_sub1]
    exact ih (j2 - 1 + 1 - (i2 + 1)) (by omega) (i2 + 1) (j2 - 1) (swp d i2 j2) n rfl (by rw [size_swp]; omega) (by omega) (by rw [size_swp]; omega) (by rw [size_swp]; omega) (by rw [size_swp]; omega) (by omega)

theorem partEqE_val (d : Array EL) (a b p : Nat) (ha : a ≤ p) (hp : p < b) (hb : b ≤ d.size) (hs : d.size < 4294967296) :
    partEqE ((rep d), (a : Int), (b : Int), (p : Int), ()) = some ((rep (partitionEqual ltX d a b p).2), (((partitionEqual ltX d a b p).1 : Nat) : Int), ()) := by
  have hm : 4294967296 < many := by simp only [many]; omega
  have ha' : a < d.size := by omega
  have hp' : p < d.size := by omega
  rw [partEqE_eq, partEqE_d, partitionEqual]
  simp only [idx_at ha', idx_at hp', eta3, (swapE ha' hp').1, (swapE ha' hp').2]
  have hs' := hs
  rw [← size_swp d a p] at ha' hs' hb
  generalize swp d a p = d at *
  simp (disch := omega) only [wrap_add1, wrap_sub1, iterL_eq]
  rw [partEqE_loop a _ (a + 1) (b - 1) d many rfl ha' (by omega) (by omega) (by omega) hs' (by omega)]
end Go.Pev.Pl.SE
end
section
namespace Go.Pev.Pl.SE
open Go.Sort
theorem scanSorted_bounds (d : Array EL) (b : Nat) : ∀ (k i : Nat), b - i = k → i ≤ b → i ≤ scanSorted ltX d b i ∧ scanSorted ltX d b i ≤ b := by
  intro k
  induction k using Nat.strongRecOn with
  | _ k ih =>
  intro i hk hi
  rw [scanSorted]
  split
  · rename_i h
    have : i < b := by simp at h; exact h.1
    have := ih (b - (i + 1)) (by omega) (i + 1) rfl (by omega)
    omega
  · omega

theorem partInsE_scan (d : Array EL) (a b s : Nat) (hb : b ≤ d.size) (hs : d.size < 4294967296) : ∀ (k i n : Nat), b - i = k → 1 ≤ i → i ≤ b → k < n →
    iterO partInsE_s1 n ((rep d), (a : Int), (b : Int), (i : Int), (s : Int), ()) = some (.inl ((rep d), (a : Int), (b : Int), ((scanSorted ltX d b i : Nat) : Int), (s : Int), ())) := by
  intro k
  induction k using Nat.strongRecOn with
  | _ k ih =>
  intro i n hk h1 hi hn
  obtain ⟨n, rfl⟩ : ∃ k, n = k + 1 := ⟨n - 1, by omega⟩
  rw [scanSorted, iterO, partInsE_s1]
  simp only [ilt_nat]
  by_cases h : i < b
  · have i0 : i < d.size := by omega
    have i1 : i - 1 < d.size := by omega
    simp (disch := omega) only [h, decide_true, wrap_sub1, wrap_add1, idx_at, dget_at, eta3, less_val, less_lt, Bool.true_and]
    cases h2 : ltX d[i]! d[i - 1]!
    · simp only [Bool.not_false, if_true]
      exact ih (b - (i + 1)) (by omega) (i + 1) n rfl (by omega) (by omega) (by omega)
    · simp only [Bool.not_true, Bool.false_eq_true, if_false]
  · simp only [h, decide_false, Bool.false_and, Bool.false_eq_true, if_false]

theorem partInsE_down (a b i s : Nat) : ∀ (j : Nat) (d : Array EL) (n : Nat), j < d.size → d.size < 4294967296 → j < n →
    iterO partInsE_s2 n ((rep d), (a : Int), (b : Int), (i : Int), (s : Int), (j : Int), ()) = some (.inl ((rep (shiftDown ltX j d)), (a : Int), (b : Int), (i : Int), (s : Int), ())) := by
  intro j
  induction j with
  | zero =>
    intro d n hj hs hn
    obtain ⟨n, rfl⟩ : ∃ k, n = k + 1 := ⟨n - 1, by omega⟩
    rw [iterO, partInsE_s2, ile_eq, decide_eq_false (by omega)]
    rfl
  | succ j ih =>
    intro d n hj hs hn
    obtain ⟨n, rfl⟩ : ∃ k, n = k + 1 := ⟨n - 1, by omega⟩
    have hj' : j < d.size := by omega
    rw [shiftDown, iterO, partInsE_s2, ile_eq, decide_eq_true (by omega)]
    simp (disch := omega) only [wrap_sub1, Nat.add_sub_cancel, idx_at, dget_at, eta3, less_val, less_lt]
    cases h2 : ltX d[j + 1]! d[j]!
    · simp only [Bool.not_false, if_true]
    · have e1 := swapE hj hj'
      simp only [dget_at hj, dget_at hj'] at e1
      simp only [Bool.not_true, Bool.false_eq_true, if_false, e1]
      exact ih _ n (by rw [size_swp]; omega) (by rw [size_swp]; omega) (by omega)

theorem partInsE_up (a b i s : Nat) : ∀ (k j : Nat) (d : Array EL) (n : Nat), b - j = k → 1 ≤ j → b ≤ d.size → d.size < 4294967296 → k < n →
    iterO partInsE_s3 n ((rep d), (a : Int), (b : Int), (i : Int), (s : Int), (j : Int), ()) = some (.inl ((rep (shiftUp ltX b j d)), (a : Int), (b : Int), (i : Int), (s : Int), ())) := by
  intro k
  induction k using Nat.strongRecOn with
  | _ k ih =>
  intro j d n hk h1 hb hs hn
  obtain ⟨n, rfl⟩ : ∃ k, n = k + 1 := ⟨n - 1, by omega⟩
  rw [shiftUp, iterO, partInsE_s3]
  simp only [ilt_nat]
  by_cases h : j < b
  · have i0 : j < d.size := by omega
    have i1 : j - 1 < d.size := by omega
    simp (disch := omega) only [h, decide_true, if_true, wrap_sub1, wrap_add1, idx_at, dget_at, eta3, less_val, less_lt]
    cases h2 : ltX d[j]! d[j - 1]!
    · simp only [Bool.not_false, if_true]
    · have e1 := swapE i0 i1
      simp only [dget_at i0, dget_at i1] at e1
      simp only [Bool.not_true, Bool.false_eq_true, if_false, e1]
      exact ih (b - (j + 1)) (by omega) (j + 1) _ n rfl (by omega) (by rw [size_swp]; omega) (by rw [size_swp]; omega) (by omega)
  · simp only [h, decide_false, if_false]

theorem size_shiftDown : ∀ (j : Nat) (d : Array EL), (shiftDown ltX j d).size = d.size := by
  intro j
  induction j with
  | zero => intro d; rfl
  | succ j ih =>
    intro d
    rw [shiftDown]
    split
    · rfl
    · rw [ih, size_swp]
theorem size_shiftUp (b : Nat) : ∀ (k j : Nat) (d : Array EL), b - j = k → (shiftUp ltX b j d).size = d.size := by
  intro k
  induction k using Nat.strongRecOn with
  | _ k ih =>
  intro j d hk
  rw [shiftUp]
  split
  · split
    · rfl
    · rw [ih (b - (j + 1)) (by omega) (j + 1) _ rfl, size_swp]
  · rfl

theorem partInsE_loop (a b : Nat) (hab : a < b) : ∀ (k i s : Nat) (d : Array EL) (n : Nat), s + k = 5 → a + 1 ≤ i → i ≤ b → b ≤ d.size → d.size < 4294967296 → k < n →
    iterO partInsE_s0 n ((rep d), (a : Int), (b : Int), (i : Int), (s : Int), ()) = some (.inl ((rep (partialIns ltX a b k i d).1), (partialIns ltX a b k i d).2, ())) ∨
    ((partialIns ltX a b k i d).2 = false ∧ iterO partInsE_s0 n ((rep d), (a : Int), (b : Int), (i : Int), (s : Int), ()) = some (.inr (.inl ((rep (partialIns ltX a b k i d).1), ())))) := by
  intro k
  induction k with
  | zero =>
    intro i s d n hk h1 hi hb hs hn
    obtain ⟨n, rfl⟩ : ∃ k, n = k + 1 := ⟨n - 1, by omega⟩
    rw [iterO, partInsE_s0, ilt_eq, decide_eq_false (by omega)]
    exact .inr ⟨rfl, rfl⟩
  | succ k ih =>
    intro i s d n hk h1 hi hb hs hn
    have hm : 4294967296 < many := by simp only [many]; omega
    have es : IntKind.wrap .i64 ((s : Int) + 1) = ((s + 1 : Nat) : Int) := wrap_add1 (by omega)
    obtain ⟨n, rfl⟩ : ∃ k, n = k + 1 := ⟨n - 1, by omega⟩
    rw [iterO, partInsE_s0, ilt_eq, decide_eq_true (by omega), partialIns]
    simp only [iterL_eq, partInsE_scan d a b s hb hs (b - i) i many rfl (by omega) hi (by omega)]
    have hsc := scanSorted_bounds d b _ i rfl hi
    generalize scanSorted ltX d b i = i2 at *
    simp only [ieq_nat]
    by_cases h2 : i2 = b
    · simp only [h2, decide_true, if_true, true_or]
    · simp (disch := omega) only [h2, decide_false, if_false, wrap_sub, ilt_eq, ile_eq]
      by_cases h3 : b - a < 50
      · rw [if_pos h3, decide_eq_true (by omega)]
        exact .inl rfl
      · have i0 : i2 < d.size := by omega
        have i1 : i2 - 1 < d.size := by omega
        rw [if_neg h3, decide_eq_false (by omega)]
        simp (disch := omega) only [wrap_sub1, wrap_add1, idx_at i0, idx_at i1, eta3, (swapE i0 i1).1, (swapE i0 i1).2]
        have hsz := size_swp d i2 (i2 - 1)
        generalize swp d i2 (i2 - 1) = d2 at *
        by_cases h4 : i2 - a ≥ 2
        · rw [if_pos h4, decide_eq_true (show (2 : Int) ≤ ((i2 - a : Nat) : Int) by omega)]
          simp only [partInsE_down a b i2 s (i2 - 1) d2 many (by omega) (by omega) (by omega)]
          have hsz2 := size_shiftDown (i2 - 1) d2
          generalize shiftDown ltX (i2 - 1) d2 = d3 at *
          simp (disch := omega) only [wrap_sub, wrap_add1]
          by_cases h5 : b - i2 ≥ 2
          · rw [if_pos h5, decide_eq_true (show (2 : Int) ≤ ((b - i2 : Nat) : Int) by omega)]
            simp only [partInsE_up a b i2 s _ (i2 + 1) d3 many rfl (by omega) (by omega) (by omega) (by omega)]
            simp only [es]
            exact ih i2 (s + 1) (shiftUp ltX b (i2 + 1) d3) n (by omega) (by omega) (by omega) (by rw [size_shiftUp b (b - (i2 + 1)) (i2 + 1) _ rfl]; omega) (by rw [size_shiftUp b (b - (i2 + 1)) (i2 + 1) _ rfl]; omega) (by omega)
          · rw [if_neg h5, decide_eq_false (show ¬ (2 : Int) ≤ ((b - i2 : Nat) : Int) by omega)]
            simp only [es]
            exact ih i2 (s + 1) d3 n (by omega) (by omega) (by omega) (by omega) (by omega) (by omega)
        · rw [if_neg h4, decide_eq_false (show ¬ (2 : Int) ≤ ((i2 - a : Nat) : Int) by omega)]
          by_cases h5 : b - i2 ≥ 2
          · rw [if_pos h5, decide_eq_true (show (2 : Int) ≤ ((b - i2 : Nat) : Int) by omega)]
            simp only [partInsE_up a b i2 s _ (i2 + 1) d2 many rfl (by omega) (by omega) (by omega) (by omega)]
            simp only [es]
            exact ih i2 (s + 1) (shiftUp ltX b (i2 + 1) d2) n (by omega) (by omega) (by omega) (by rw [size_shiftUp b (b - (i2 + 1)) (i2 + 1) _ rfl]; omega) (by rw [size_shiftUp b (b - (i2 + 1)) (i2 + 1) _ rfl]; omega) (by omega)
          · rw [if_neg h5, decide_eq_false (show ¬ (2 : Int) ≤ ((b - i2 : Nat) : Int) by omega)]
            simp only [es]
            exact ih i2 (s + 1) d2 n (by omega) (by omega) (by omega) (by omega) (by omega) (by omega)

theorem partInsE_val (d : Array EL) (a b : Nat) (hab : a < b) (hb : b ≤ d.size) (hs : d.size < 4294967296) :
    partInsE ((rep d), (a : Int), (b : Int), ()) = some ((rep (partialInsertionSort ltX d a b).1), (partialInsertionSort ltX d a b).2, ()) := by
  have hm : 4294967296 < many := by simp only [many]; omega
  rw [partInsE_eq, partInsE_d, partialInsertionSort]
  simp (disch := omega) only [wrap_add1, iterL_eq]
  have h := partInsE_loop a b hab 5 (a + 1) 0 d many rfl (Nat.le_refl _) (by omega) hb hs (by omega)
  rcases h with h | ⟨h0, h⟩
  · have h' : iterO partInsE_s0 many ((rep d), (a : Int), (b : Int), ((a + 1 : Nat) : Int), (0 : Int), ()) = _ := h
    rw [h']
  · have h' : iterO partInsE_s0 many ((rep d), (a : Int), (b : Int), ((a + 1 : Nat) : Int), (0 : Int), ()) = _ := h
    rw [h', h0]

/- the pivot: of it only its place is told -/
theorem order2E_val (d : Array EL) (a b : Nat) (s : Int) (ha : a < d.size) (hb : b < d.size) :
    ∃ s' p q, order2E ((rep d), (a : Int), (b : Int), s, ()) = some ((rep d), s', ((p : Nat) : Int), ((q : Nat) : Int), ()) ∧ (p = a ∧ q = b ∨ p = b ∧ q = a) := by
  rw [order2E_eq, order2E_d]
  simp only [idx_at ha, idx_at hb, dget_at ha, dget_at hb, eta3, less_val, less_lt]
  cases ltX d[b]! d[a]!
  · exact ⟨_, a, b, rfl, .inl ⟨rfl, rfl⟩⟩
  · exact ⟨_, b, a, rfl, .inr ⟨rfl, rfl⟩⟩

theorem medianE_val (d : Array EL) (a b c : Nat) (s : Int) (ha : a < d.size) (hb : b < d.size) (hc : c < d.size) :
    ∃ s' p, medianE ((rep d), (a : Int), (b : Int), (c : Int), s, ()) = some ((rep d), s', ((p : Nat) : Int), ()) ∧ (p = a ∨ p = b ∨ p = c) := by
  rw [medianE_eq, medianE_d]
  obtain ⟨s1, p1, q1, e1, h1⟩ := order2E_val d a b s ha hb
  simp only [e1]
  obtain ⟨s2, p2, q2, e2, h2⟩ := order2E_val d q1 c s1 (by omega) hc
  simp only [e2]
  obtain ⟨s3, p3, q3, e3, h3⟩ := order2E_val d p1 p2 s2 (by omega) (by omega)
  simp only [e3]
  exact ⟨_, q3, rfl, by omega⟩

theorem medAdjE_val (d : Array EL) (a : Nat) (s : Int) (h1 : 1 ≤ a) (ha : a + 1 < d.size) (hs : d.size < 4294967296) :
    ∃ s' p, medAdjE ((rep d), (a : Int), s, ()) = some ((rep d), s', ((p : Nat) : Int), ()) ∧ a ≤ p + 1 ∧ p ≤ a + 1 := by
  rw [medAdjE_eq, medAdjE_d]
  simp (disch := omega) only [wrap_sub1, wrap_add1]
  obtain ⟨s1, p1, e1, h1⟩ := medianE_val d (a - 1) a (a + 1) s (by omega) (by omega) ha
  simp only [e1]
  exact ⟨_, p1, rfl, by omega⟩

theorem pivotE_val (d : Array EL) (a b : Nat) (hab : a + 8 ≤ b) (hb : b ≤ d.size) (hs : d.size < 4294967296) :
    ∃ p h, pivotE ((rep d), (a : Int), (b : Int), ()) = some ((rep d), ((p : Nat) : Int), h, ()) ∧ a ≤ p ∧ p < b := by
  rw [pivotE_eq, pivotE_d]
  simp (disch := omega) only [wrap_sub, quo_4, wrap_mul1, wrap_mul2, wrap_mul3, wrap_add, ile_eq]
  rw [decide_eq_true (show (8 : Int) ≤ ((b - a : Nat) : Int) by omega)]
  simp only []
  by_cases h : 50 ≤ b - a
  · rw [decide_eq_true (show (50 : Int) ≤ ((b - a : Nat) : Int) by omega)]
    simp only []
    obtain ⟨s1, p1, e1, h1⟩ := medAdjE_val d (a + (b - a) / 4 * 1) 0 (by omega) (by omega) hs
    simp only [e1]
    obtain ⟨s2, p2, e2, h2⟩ := medAdjE_val d (a + (b - a) / 4 * 2) s1 (by omega) (by omega) hs
    simp only [e2]
    obtain ⟨s3, p3, e3, h3⟩ := medAdjE_val d (a + (b - a) / 4 * 3) s2 (by omega) (by omega) hs
    simp only [e3]
    obtain ⟨s4, p4, e4, h4⟩ := medianE_val d p1 p2 p3 s3 (by omega) (by omega) (by omega)
    simp only [e4]
    cases ieq s4 0
    · cases ieq s4 12
      · exact ⟨p4, _, rfl, by omega, by omega⟩
      · exact ⟨p4, _, rfl, by omega, by omega⟩
    · exact ⟨p4, _, rfl, by omega, by omega⟩
  · rw [decide_eq_false (show ¬ (50 : Int) ≤ ((b - a : Nat) : Int) by omega)]
    simp only []
    obtain ⟨s4, p4, e4, h4⟩ := medianE_val d (a + (b - a) / 4 * 1) (a + (b - a) / 4 * 2) (a + (b - a) / 4 * 3) 0 (by omega) (by omega) (by omega)
    simp only [e4]
    cases ieq s4 0
    · cases ieq s4 12
      · exact ⟨p4, _, rfl, by omega, by omega⟩
      · exact ⟨p4, _, rfl, by omega, by omega⟩
    · exact ⟨p4, _, rfl, by omega, by omega⟩
end Go.Pev.Pl.SE
end
section
namespace Go.Pev.Pl.SE
open Go.Sort
theorem breakE_loop (a b : Nat) (m : Nat) (h8 : a + 8 ≤ b) (hm1 : 1 ≤ m) (hm : m ≤ 2 * (b - a)) : ∀ (k t : Nat) (d : Array EL) (r : Int) (n : Nat), t + k = 3 → b ≤ d.size → d.size < 4294967296 → k < n →
    ∃ d' : Array EL, iterO breakE_s0 n ((rep d), (a : Int), ((b - a : Nat) : Int), r, (m : Int), ((a + (b - a) / 4 * 2 - 1 + t : Nat) : Int), ()) = some (.inl ((rep d'), ())) ∧ PermIn a b d d' := by
  intro k
  induction k with
  | zero =>
    intro t d r n hk hb hs hn
    obtain ⟨n, rfl⟩ : ∃ k, n = k + 1 := ⟨n - 1, by omega⟩
    rw [iterO, breakE_s0]
    simp (disch := omega) only [quo_4, wrap_mul2, wrap_add, wrap_add1, ile_nat]
    rw [decide_eq_false (by omega)]
    exact ⟨d, rfl, permIn_refl d a b⟩
  | succ k ih =>
    intro t d r n hk hb hs hn
    obtain ⟨n, rfl⟩ : ∃ k, n = k + 1 := ⟨n - 1, by omega⟩
    rw [iterO, breakE_s0]
    simp (disch := omega) only [quo_4, wrap_mul2, wrap_add, wrap_add1, ile_nat]
    rw [decide_eq_true (show a + (b - a) / 4 * 2 - 1 + t ≤ a + (b - a) / 4 * 2 + 1 by omega)]
    obtain ⟨r', y, e⟩ := xorNext_val r
    obtain ⟨o, e2, ho⟩ := other_le y m hm1 (by omega)
    simp only [e, e2]
    rw [wrap_in (n := (o : Int)) (by omega)]
    simp only [ile_nat]
    have i0 : a + (b - a) / 4 * 2 - 1 + t < d.size := by omega
    have fin : ∀ q : Nat, a ≤ q → q < b → ∃ d' : Array EL, iterO breakE_s0 n ((rep (swp d (a + (b - a) / 4 * 2 - 1 + t) q)), (a : Int), ((b - a : Nat) : Int), r', (m : Int), ((a + (b - a) / 4 * 2 - 1 + t + 1 : Nat) : Int), ()) = some (.inl ((rep d'), ())) ∧ PermIn a b d d' := by
      intro q hq1 hq2
      obtain ⟨d', e', hp⟩ := ih (t + 1) (swp d (a + (b - a) / 4 * 2 - 1 + t) q) r' n (by omega) (by rw [size_swp]; omega) (by rw [size_swp]; omega) (by omega)
      exact ⟨d', e', permIn_trans _ _ _ a b (swp_permIn d a b _ q (by omega) (by omega) hq1 hq2 hb) hp⟩
    by_cases h : b - a ≤ o
    · have i1 : a + (o - (b - a)) < d.size := by omega
      simp (disch := omega) only [h, decide_true, wrap_sub, wrap_add, wrap_add1, idx_at i0, idx_at i1, eta3, (swapE i0 i1).1, (swapE i0 i1).2]
      exact fin _ (by omega) (by omega)
    · have i1 : a + o < d.size := by omega
      simp (disch := omega) only [h, decide_false, wrap_sub, wrap_add, wrap_add1, idx_at i0, idx_at i1, eta3, (swapE i0 i1).1, (swapE i0 i1).2]
      exact fin _ (by omega) (by omega)

theorem breakE_val (d : Array EL) (a b : Nat) (hab : a ≤ b) (hb : b ≤ d.size) (hs : d.size < 4294967296) :
    ∃ d' : Array EL, breakE ((rep d), (a : Int), (b : Int), ()) = some ((rep d'), ()) ∧ PermIn a b d d' := by
  have hm : 4294967296 < many := by simp only [many]; omega
  rw [breakE_eq, breakE_d]
  simp (disch := omega) only [wrap_sub, ile_eq]
  by_cases h : 8 ≤ b - a
  · rw [decide_eq_true (show (8 : Int) ≤ ((b - a : Nat) : Int) by omega)]
    obtain ⟨m, e, h1, h2⟩ := nextPow_val (b - a) (by omega) (by omega)
    simp only [e]
    rw [u64_in (n := ((b - a : Nat) : Int)) (by omega)]
    simp (disch := omega) only [quo_4, wrap_mul2, wrap_add, wrap_sub1, iterL_eq]
    obtain ⟨d', e2, hp⟩ := breakE_loop a b m (by omega) h1 h2 3 0 d ((b - a : Nat) : Int) many rfl hb hs (by omega)
    rw [Nat.add_zero] at e2
    simp only [e2]
    exact ⟨d', rfl, hp⟩
  · rw [decide_eq_false (show ¬ (8 : Int) ≤ ((b - a : Nat) : Int) by omega)]
    exact ⟨d, rfl, permIn_refl d a b⟩
end Go.Pev.Pl.SE
end
section
namespace Go.Pev.Pl.SE
open Go.Sort
abbrev PdqSt := List (Int × Int × Unit) × Int × Int × Int × Bool × Bool × Unit
abbrev PdqOutT := PdqSt ⊕ (List (Int × Int × Unit) × Unit) ⊕ Unit
noncomputable section
def pdqTail (self : (List (Int × Int × Unit) × Int × Int × Int × Unit) → Option ((List (Int × Int × Unit) × Unit))) (y7 : List (Int × Int × Unit)) (a1 a2 p l : Int) (a4 a5 : Bool) : Option PdqOutT :=
  match (ilt (0 : Int) a1) with
  | true => match idx y7 (IntKind.wrap .i64 (a1 - (1 : Int))) with
    | none => none
    | some x9 => match idx y7 p with
      | none => none
      | some x10 => match edges1 ((dget y7 (dnat (IntKind.wrap .i64 (a1 - (1 : Int)))) ((0 : Int), ((0 : Int), ()))), (dget y7 (dnat p) ((0 : Int), ((0 : Int), ()))), ()) with
        | none => none
        | some (y11, _) => match (!(ilt y11 (0 : Int))) with
          | true => match partEqE (y7, a1, a2, p, ()) with
            | none => none
            | some (y12, y13, _) => some (.inl (y12, y13, a2, l, a4, a5, ()))
          | false => match partE (y7, a1, a2, p, ()) with
            | none => none
            | some (y14, y15, y16, _) => match quo? .i64 (IntKind.wrap .i64 (a2 - a1)) (8 : Int) with
              | none => none
              | some x17 => match (ilt (IntKind.wrap .i64 (y15 - a1)) (IntKind.wrap .i64 (a2 - y15))) with
                | true => match self (y14, a1, y15, l, ()) with
                  | none => none
                  | some (y18, _) => some (.inl (y18, (IntKind.wrap .i64 (y15 + (1 : Int))), a2, l, (ile x17 (IntKind.wrap .i64 (y15 - a1))), y16, ()))
                | false => match self (y14, (IntKind.wrap .i64 (y15 + (1 : Int))), a2, l, ()) with
                  | none => none
                  | some (y19, _) => some (.inl (y19, a1, y15, l, (ile x17 (IntKind.wrap .i64 (a2 - y15))), y16, ()))
  | false => match partE (y7, a1, a2, p, ()) with
    | none => none
    | some (y20, y21, y22, _) => match quo? .i64 (IntKind.wrap .i64 (a2 - a1)) (8 : Int) with
      | none => none
      | some x23 => match (ilt (IntKind.wrap .i64 (y21 - a1)) (IntKind.wrap .i64 (a2 - y21))) with
        | true => match self (y20, a1, y21, l, ()) with
          | none => none
          | some (y24, _) => some (.inl (y24, (IntKind.wrap .i64 (y21 + (1 : Int))), a2, l, (ile x23 (IntKind.wrap .i64 (y21 - a1))), y22, ()))
        | false => match self (y20, (IntKind.wrap .i64 (y21 + (1 : Int))), a2, l, ()) with
          | none => none
          | some (y25, _) => some (.inl (y25, a1, y21, l, (ile x23 (IntKind.wrap .i64 (a2 - y21))), y22, ()))
def pdqEnd (self : (List (Int × Int × Unit) × Int × Int × Int × Unit) → Option ((List (Int × Int × Unit) × Unit))) (y6 : List (Int × Int × Unit)) (a1 a2 p h l : Int) (a4 a5 : Bool) : Option PdqOutT :=
  match a4 with
  | true => match a5 with
    | true => match (ieq h (1 : Int)) with
      | true => match partInsE (y6, a1, a2, ()) with
        | none => none
        | some (y7, y8, _) => match y8 with
          | true => some (.inr (.inl (y7, ())))
          | false => pdqTail self y7 a1 a2 p l a4 a5
      | false => pdqTail self y6 a1 a2 p l a4 a5
    | false => pdqTail self y6 a1 a2 p l a4 a5
  | false => pdqTail self y6 a1 a2 p l a4 a5
def pdqMid (self : (List (Int × Int × Unit) × Int × Int × Int × Unit) → Option ((List (Int × Int × Unit) × Unit))) (y2 : List (Int × Int × Unit)) (a1 a2 l : Int) (a4 a5 : Bool) : Option PdqOutT :=
  match pivotE (y2, a1, a2, ()) with
  | none => none
  | some (y3, y4, y5, _) => match (ieq y5 (2 : Int)) with
    | true => match revE (y3, a1, a2, ()) with
      | none => none
      | some (y6, _) => pdqEnd self y6 a1 a2 (IntKind.wrap .i64 ((IntKind.wrap .i64 (a2 - (1 : Int))) - (IntKind.wrap .i64 (y4 - a1)))) 1 l a4 a5
    | false => pdqEnd self y3 a1 a2 y4 y5 l a4 a5
def pdqRound (self : (List (Int × Int × Unit) × Int × Int × Int × Unit) → Option ((List (Int × Int × Unit) × Unit))) : PdqSt → Option PdqOutT := fun (a0, a1, a2, a3, a4, a5, _) =>
  match (ile (IntKind.wrap .i64 (a2 - a1)) (12 : Int)) with
  | true => match insE (a0, a1, a2, ()) with
    | none => none
    | some (y0, _) => some (.inr (.inl (y0, ())))
  | false => match (ieq a3 (0 : Int)) with
    | true => match heapE (a0, a1, a2, ()) with
      | none => none
      | some (y1, _) => some (.inr (.inl (y1, ())))
    | false => match (!a4) with
      | true => match breakE (a0, a1, a2, ()) with
        | none => none
        | some (y2, _) => pdqMid self y2 a1 a2 (IntKind.wrap .i64 (a3 - (1 : Int))) a4 a5
      | false => pdqMid self a0 a1 a2 a3 a4 a5
theorem pdqE_s0_round : pdqE_s0 = pdqRound := rfl
end

/-- what a round of the loop may end in -/
def PdqOut (d : Array EL) (a b : Nat) : PdqOutT → Prop
  | .inl (xs, x, y, l, _, _, _) => ∃ (e : Array EL) (i j : Nat), xs = (rep e) ∧ x = (i : Int) ∧ y = (j : Int) ∧ 0 ≤ l ∧ l ≤ 100 ∧ i ≤ j ∧ j ≤ e.size ∧ e.size = d.size ∧ j - i < b - a ∧ Below ltX i j e ∧
      ∀ R, PermIn i j e R → SortedIn ltX i j R → PermIn a b d R ∧ SortedIn ltX a b R
  | .inr (.inl (xs, _)) => ∃ R : Array EL, xs = (rep R) ∧ PermIn a b d R ∧ SortedIn ltX a b R
  | .inr (.inr _) => False

def PdqCalls (self : (List (Int × Int × Unit) × Int × Int × Int × Unit) → Option ((List (Int × Int × Unit) × Unit))) (m : Nat) : Prop :=
  ∀ (d : Array EL) (a b : Nat) (l : Int), a ≤ b → b ≤ d.size → d.size < 4294967296 → 0 ≤ l → l ≤ 100 → Below ltX a b d → 2 * (b - a) < m →
    ∃ R : Array EL, self ((rep d), (a : Int), (b : Int), l, ()) = some ((rep R), ()) ∧ PermIn a b d R ∧ SortedIn ltX a b R

section
variable {self : (List (Int × Int × Unit) × Int × Int × Int × Unit) → Option ((List (Int × Int × Unit) × Unit))} {d : Array EL} {a b : Nat} {l : Int}
theorem pdq_part (hself : PdqCalls self (b - a)) (hb : b ≤ d.size) (hs : d.size < 4294967296) (hl : 0 ≤ l ∧ l ≤ 100)
    {d3 : Array EL} {p : Nat} (P3 : PermIn a b d d3) (B3 : Below ltX a b d3) (hp1 : a ≤ p) (hp2 : p < b) :
    ∃ o, (match partE ((rep d3), (a : Int), (b : Int), (p : Int), ()) with
    | none => none
    | some (y20, y21, y22, _) => match quo? .i64 (IntKind.wrap .i64 ((b : Int) - (a : Int))) (8 : Int) with
      | none => none
      | some x23 => match (ilt (IntKind.wrap .i64 (y21 - (a : Int))) (IntKind.wrap .i64 ((b : Int) - y21))) with
        | true => match self (y20, (a : Int), y21, l, ()) with
          | none => none
          | some (y24, _) => some ((.inl (y24, (IntKind.wrap .i64 (y21 + (1 : Int))), (b : Int), l, (ile x23 (IntKind.wrap .i64 (y21 - (a : Int)))), y22, ())) : PdqOutT)
        | false => match self (y20, (IntKind.wrap .i64 (y21 + (1 : Int))), (b : Int), l, ()) with
          | none => none
          | some (y25, _) => some (.inl (y25, (a : Int), y21, l, (ile x23 (IntKind.wrap .i64 ((b : Int) - y21))), y22, ()))) = some o ∧ PdqOut d a b o := by
  have b3 : b ≤ d3.size := by rw [P3.1]; exact hb
  have s3 : d3.size < 4294967296 := by rw [P3.1]; exact hs
  rw [partE_val d3 a b p hp1 hp2 b3 s3]
  rcases hx : partition ltX d3 a b p with ⟨mid, ap, d4⟩
  obtain ⟨g1, g2, hs4, hBa, hBr, hleft, hright⟩ := round_part swoX (partition_holds _) hp1 hp2 b3 B3 hx
  simp (disch := omega) only [wrap_sub, wrap_add1, quo_8, ilt_nat]
  have b4 : b ≤ d4.size := by omega
  by_cases h : mid - a < b - mid
  · obtain ⟨L, e, l1, l2⟩ := hself d4 a mid l g1 (by omega) (by omega) hl.1 hl.2 hBa (by omega)
    simp only [h, decide_true, e]
    obtain ⟨hBL, hfin⟩ := hleft _ l1 l2
    refine ⟨_, rfl, L, mid + 1, b, rfl, rfl, rfl, hl.1, hl.2, by omega, by rw [l1.1]; exact b4, by rw [l1.1, hs4, P3.1], by omega, hBL, fun R r1 r2 => ?_⟩
    obtain ⟨q1, q2⟩ := hfin R r1 r2
    exact ⟨permIn_trans _ _ _ a b P3 q1, q2⟩
  · obtain ⟨L, e, l1, l2⟩ := hself d4 (mid + 1) b l (by omega) (by omega) (by omega) hl.1 hl.2 hBr (by omega)
    simp only [h, decide_false, e]
    obtain ⟨hBL, hfin⟩ := hright _ l1 l2
    refine ⟨_, rfl, L, a, mid, rfl, rfl, rfl, hl.1, hl.2, by omega, by rw [l1.1]; omega, by rw [l1.1, hs4, P3.1], by omega, hBL, fun R r1 r2 => ?_⟩
    obtain ⟨q1, q2⟩ := hfin R r1 r2
    exact ⟨permIn_trans _ _ _ a b P3 q1, q2⟩

theorem pdq_tail (hself : PdqCalls self (b - a)) (hb : b ≤ d.size) (hs : d.size < 4294967296) (hl : 0 ≤ l ∧ l ≤ 100)
    {d3 : Array EL} {p : Nat} (wb wp : Bool) (P3 : PermIn a b d d3) (B3 : Below ltX a b d3) (hp1 : a ≤ p) (hp2 : p < b) :
    ∃ o, pdqTail self (rep d3) (a : Int) (b : Int) (p : Int) l wb wp = some o ∧ PdqOut d a b o := by
  have b3 : b ≤ d3.size := by rw [P3.1]; exact hb
  have s3 : d3.size < 4294967296 := by rw [P3.1]; exact hs
  rw [pdqTail, ilt_eq]
  by_cases h0 : 0 < a
  · rw [decide_eq_true (by omega)]
    have i0 : a - 1 < d3.size := by omega
    have i1 : p < d3.size := by omega
    simp (disch := omega) only [wrap_sub1, idx_at, dget_at, eta3, less_val, less_lt]
    cases hc : ltX d3[a - 1]! d3[p]!
    · simp only [Bool.not_false]
      rw [partEqE_val d3 a b p hp1 hp2 b3 s3]
      rcases hx : partitionEqual ltX d3 a b p with ⟨mid, d4⟩
      obtain ⟨hm1, hm2, hs4, hB4, hfin⟩ := round_eq swoX (partitionEqual_holds _) h0 hp1 hp2 b3 B3 hc hx
      refine ⟨_, rfl, d4, mid, b, rfl, rfl, rfl, hl.1, hl.2, by omega, by omega, by rw [hs4, P3.1], by omega, hB4, fun R r1 r2 => ?_⟩
      obtain ⟨q1, q2⟩ := hfin R r1 r2
      exact ⟨permIn_trans _ _ _ a b P3 q1, q2⟩
    · simp only [Bool.not_true]
      exact pdq_part hself hb hs hl P3 B3 hp1 hp2
  · rw [decide_eq_false (by omega)]
    exact pdq_part hself hb hs hl P3 B3 hp1 hp2

theorem pdq_end (hself : PdqCalls self (b - a)) (hab : a < b) (hb : b ≤ d.size) (hs : d.size < 4294967296) (hl : 0 ≤ l ∧ l ≤ 100)
    {d3 : Array EL} {p : Nat} (h : Int) (wb wp : Bool) (P3 : PermIn a b d d3) (B3 : Below ltX a b d3) (hp1 : a ≤ p) (hp2 : p < b) :
    ∃ o, pdqEnd self (rep d3) (a : Int) (b : Int) (p : Int) h l wb wp = some o ∧ PdqOut d a b o := by
  have b3 : b ≤ d3.size := by rw [P3.1]; exact hb
  have s3 : d3.size < 4294967296 := by rw [P3.1]; exact hs
  unfold pdqEnd
  cases wb
  · exact pdq_tail hself hb hs hl _ _ P3 B3 hp1 hp2
  · cases wp
    · exact pdq_tail hself hb hs hl _ _ P3 B3 hp1 hp2
    · simp only []
      cases ieq h 1
      · exact pdq_tail hself hb hs hl _ _ P3 B3 hp1 hp2
      · simp only []
        rw [partInsE_val d3 a b hab b3 s3]
        obtain ⟨q1, q2⟩ := partialInsertionSort_holds (lt := ltX) swoX d3 a b hab b3 B3
        rcases hx : partialInsertionSort ltX d3 a b with ⟨d4, fin⟩
        rw [hx] at q1 q2
        have P4 : PermIn a b d d4 := permIn_trans _ _ _ a b P3 q1
        cases fin
        · exact pdq_tail hself hb hs hl _ _ P4 (B3.perm b3 q1) hp1 hp2
        · exact ⟨_, rfl, d4, rfl, P4, q2 rfl⟩

theorem pdq_mid (hself : PdqCalls self (b - a)) (hab : a + 8 ≤ b) (hb : b ≤ d.size) (hs : d.size < 4294967296) (hl : 0 ≤ l ∧ l ≤ 100)
    {d3 : Array EL} (wb wp : Bool) (P3 : PermIn a b d d3) (B3 : Below ltX a b d3) :
    ∃ o, pdqMid self (rep d3) (a : Int) (b : Int) l wb wp = some o ∧ PdqOut d a b o := by
  have b3 : b ≤ d3.size := by rw [P3.1]; exact hb
  have s3 : d3.size < 4294967296 := by rw [P3.1]; exact hs
  rw [pdqMid]
  obtain ⟨p, h, e, hp1, hp2⟩ := pivotE_val d3 a b hab b3 s3
  simp only [e]
  cases ieq h 2
  · exact pdq_end hself (by omega) hb hs hl h _ _ P3 B3 hp1 hp2
  · simp only [revE_val d3 a b (by omega) b3 s3]
    have q1 := reverseRange_holds (α := EL) d3 a b (by omega) b3
    simp (disch := omega) only [wrap_sub1, wrap_sub]
    exact pdq_end hself (by omega) hb hs hl 1 _ _ (permIn_trans _ _ _ a b P3 q1) (B3.perm b3 q1) (by omega) (by omega)

theorem pdq_round (hself : PdqCalls self (b - a)) (hab : a ≤ b) (hb : b ≤ d.size) (hs : d.size < 4294967296) (hl : 0 ≤ l ∧ l ≤ 100) (wb wp : Bool) (B : Below ltX a b d) :
    ∃ o, pdqE_s0 self ((rep d), (a : Int), (b : Int), l, wb, wp, ()) = some o ∧ PdqOut d a b o := by
  rw [pdqE_s0_round, pdqRound]
  simp (disch := omega) only [wrap_sub, ile_eq, ieq_eq]
  by_cases h12 : b - a ≤ 12
  · rw [decide_eq_true (show ((b - a : Nat) : Int) ≤ 12 by omega)]
    simp only [insE_val d a b hab hb hs]
    obtain ⟨q1, q2⟩ := insertionSort_holds (lt := ltX) swoX d a b hab hb
    exact ⟨_, rfl, _, rfl, q1, q2⟩
  · rw [decide_eq_false (show ¬ ((b - a : Nat) : Int) ≤ 12 by omega)]
    simp only []
    by_cases h0 : l = 0
    · subst h0
      simp only [BEq.rfl, heapE_val d a b (by omega) hb hs]
      obtain ⟨q1, q2⟩ := heapSort_holds (lt := ltX) swoX d a b hab hb
      exact ⟨_, rfl, _, rfl, q1, q2⟩
    · rw [show (l == 0) = false by simpa using h0]
      simp only []
      cases wb
      · obtain ⟨d', e, q1⟩ := breakE_val d a b hab hb hs
        simp only [Bool.not_false, e]
        rw [wrap_in (by omega)]
        exact pdq_mid hself (by omega) hb hs (by omega) _ _ q1 (B.perm hb q1)
      · simp only [Bool.not_true]
        exact pdq_mid hself (by omega) hb hs hl _ _ (permIn_refl d a b) B
end

theorem pdq_loop {self : (List (Int × Int × Unit) × Int × Int × Int × Unit) → Option ((List (Int × Int × Unit) × Unit))} {m : Nat} (hself : PdqCalls self m) : ∀ (k : Nat) (d : Array EL) (a b : Nat) (l : Int) (wb wp : Bool) (n : Nat), b - a = k → k ≤ m → a ≤ b → b ≤ d.size → d.size < 4294967296 → 0 ≤ l → l ≤ 100 → Below ltX a b d → k < n →
    ∃ R : Array EL, iterO (pdqE_s0 self) n ((rep d), (a : Int), (b : Int), l, wb, wp, ()) = some (.inl ((rep R), ())) ∧ PermIn a b d R ∧ SortedIn ltX a b R := by
  intro k
  induction k using Nat.strongRecOn with
  | _ k ih =>
  intro d a b l wb wp n hk hm hab hb hs hl1 hl2 B hn
  obtain ⟨n, rfl⟩ : ∃ k, n = k + 1 := ⟨n - 1, by omega⟩
  have hself' : PdqCalls self (b - a) := fun d a' b' l h1 h2 h3 h4 h5 h6 h7 => hself d a' b' l h1 h2 h3 h4 h5 h6 (by omega)
  obtain ⟨o, e, ho⟩ := pdq_round hself' hab hb hs ⟨hl1, hl2⟩ wb wp B
  rw [iterO, e]
  match o, ho with
  | .inl (xs, x, y, l', wb', wp', _), ho =>
    obtain ⟨e', i, j, rfl, rfl, rfl, g1, g2, g3, g4, g5, g6, g7, hfin⟩ := ho
    obtain ⟨R, e2, r1, r2⟩ := ih (j - i) (by omega) e' i j l' wb' wp' n rfl (by omega) g3 g4 (by omega) g1 g2 g7 (by omega)
    exact ⟨R, e2, hfin R r1 r2⟩
  | .inr (.inl (xs, _)), ho =>
    obtain ⟨R, rfl, r1, r2⟩ := ho
    exact ⟨R, rfl, r1, r2⟩

theorem pdq_calls : ∀ k : Nat, PdqCalls (pdqE_f (k + 1)) (2 ^ k) := by
  intro k
  have hmany : 4294967296 < many := by simp only [many]; omega
  induction k with
  | zero =>
    intro d a b l h1 h2 h3 h4 h5 h6 h7
    have : PdqCalls (pdqE_f 0) 0 := fun _ _ _ _ _ _ _ _ _ _ h => by omega
    obtain ⟨R, e, r1, r2⟩ := pdq_loop this (b - a) d a b l true true many rfl (by omega) h1 h2 h3 h4 h5 h6 (by omega)
    refine ⟨R, ?_, r1, r2⟩
    rw [pdqE_f, pdqE_d]
    simp only [iterL_eq, e]
  | succ k ih =>
    intro d a b l h1 h2 h3 h4 h5 h6 h7
    have hp : 2 ^ (k + 1) = 2 * 2 ^ k := by rw [Nat.pow_succ]; omega
    obtain ⟨R, e, r1, r2⟩ := pdq_loop ih (b - a) d a b l true true many rfl (by omega) h1 h2 h3 h4 h5 h6 (by omega)
    refine ⟨R, ?_, r1, r2⟩
    rw [pdqE_f, pdqE_d]
    simp only [iterL_eq, e]

/-- what the sort comes to: the same elements, by compare rising -/
theorem sort_val (xs : List (Int × Int × Unit)) (h : xs.length < 4294967296) (hok : ∀ x ∈ xs, ok x) : ∃ ys, sortE (xs, ()) = some (ys, ()) ∧ ys.Perm xs ∧ ys.Pairwise fun x y => lt y x = false := by
  obtain ⟨d, rfl⟩ : ∃ d : Array EL, xs = rep d := by
    refine ⟨(xs.attach.map fun x => ⟨x.val, hok x.val x.property⟩).toArray, ?_⟩
    simp only [rep, List.map_map]
    exact (List.attach_map_subtype_val xs).symm
  have hl : (rep d).length = d.size := by simp [rep]
  rw [hl] at h
  rw [sortE_eq, sortE_d]
  rw [dlen_at, u64_in (by omega)]
  obtain ⟨v, e, hv, _⟩ := bitsLen_val d.size h
  simp only [e]
  obtain ⟨R, e2, r1, r2⟩ := pdq_calls 99 d 0 d.size (v : Int) (by omega) (by omega) h (by omega) (by omega) (.inl rfl) (by
    have : 2 ^ 99 = 633825300114114700748351602688 := by decide
    omega)
  have e3 : pdqE (rep d, (0 : Int), (d.size : Int), (v : Int), ()) = some (rep R, ()) := by rw [pdqE_eq]; exact e2
  refine ⟨rep R, by simp only [e3], ?_, ?_⟩
  · obtain ⟨hsz, _, hp⟩ := r1
    have e1 : R.extract 0 d.size = R := by rw [← hsz]; exact Array.extract_size
    rw [e1, Array.extract_size] at hp
    exact hp.map _
  · rw [rep, List.pairwise_map, List.pairwise_iff_getElem]
    intro i j hi hj hij
    have hi' : i < R.size := by simpa using hi
    have hj' : j < R.size := by simpa using hj
    have := r2 i j (Nat.zero_le _) hij (by rw [← r1.1]; omega)
    rw [getElem!_pos R j hj', getElem!_pos R i hi'] at this
    simpa [ltX] using this
end Go.Pev.Pl.SE
end
section
/- Edges of a forest, and the law ForestSets of the models. -/
namespace Go.Pev.Pl
open Go.RowKit Tok

/- edges that a ring's arcs are of -/
def upT : Tok → Option Edge
  | .arc u v => if u < v then some (u, v, ()) else none
  | .ver _ => none
def upI (n t : Int) : Option Edge := (tokOf n t).bind upT
def arcsUp (n : Int) (xs : List Int) : List Edge := xs.filterMap (upI n)

theorem T.ups {l : List Tok} (h : T l) : (l.filterMap upT).length + 1 = (vers l).length := by
  induction h with
  | one v => rfl
  | add x l v h hne hv ih =>
    have : ((x :: Tok.arc x.st v :: .ver v :: .arc v x.st :: l).filterMap upT).length = ((x :: l).filterMap upT).length + 1 := by
      have u2 : upT (.ver v) = none := rfl
      by_cases hl : x.st < v
      · have u1 : upT (.arc x.st v) = some (x.st, v, ()) := if_pos hl
        have u3 : upT (.arc v x.st) = none := if_neg (by omega)
        cases hx : upT x <;> simp only [List.filterMap_cons, hx, u1, u2, u3, List.length_cons]
      · have u1 : upT (.arc x.st v) = none := if_neg hl
        have u3 : upT (.arc v x.st) = some (v, x.st, ()) := if_pos (by omega)
        cases hx : upT x <;> simp only [List.filterMap_cons, hx, u1, u2, u3, List.length_cons]
    rw [this]
    cases x <;> simp [vers] at ih ⊢ <;> omega
  | rot a b h ih =>
    simp only [vers_append, List.length_append, List.filterMap_append] at ih ⊢
    omega

theorem arcsUp_map {n : Int} {L : List Tok} (h : ∀ t ∈ L, okT n t) : arcsUp n (L.map (encT n)) = L.filterMap upT := by
  induction L with
  | nil => rfl
  | cons t L ih =>
    have h1 := ih fun t ht => h t (List.mem_cons_of_mem _ ht)
    have h2 : upI n (encT n t) = upT t := by rw [upI, tokOf_enc (h t (by simp))]; rfl
    rw [arcsUp] at h1 ⊢
    rw [List.map_cons, List.filterMap_cons, List.filterMap_cons, h2, h1]
theorem arcsUp_len {n : Int} {A : List Int} (h : RG n A) : (arcsUp n A).length + 1 = (verts n A).length := by
  have h1 := lows_len h
  obtain ⟨L, q1, q2, q3⟩ := h.2.2.2
  have h2 := q3.len
  have h3 := T.ups q3
  rw [q1, List.length_map] at h1
  rw [q1, arcsUp_map q2]
  omega
theorem arcsUp_mem {n : Int} {A : List Int} {e : Edge} : e ∈ arcsUp n A ↔ e.1 < e.2.1 ∧ okT n (.arc e.1 e.2.1) ∧ arcT n e.1 e.2.1 ∈ A := by
  rw [arcsUp, List.mem_filterMap]
  constructor
  · rintro ⟨t, ht, h⟩
    rw [upI, Option.bind_eq_some_iff] at h
    obtain ⟨x, h1, h2⟩ := h
    obtain ⟨g1, g2⟩ := enc_tokOf h1
    cases x with
    | ver v => cases h2
    | arc u v =>
      simp only [upT] at h2
      split at h2
      · cases h2
        exact ⟨by assumption, g1, by rw [arcT_enc g1, g2]; exact ht⟩
      · cases h2
  · rintro ⟨h1, h2, h3⟩
    refine ⟨_, h3, ?_⟩
    rw [upI, arcT_enc h2, tokOf_enc h2]
    simp [upT, h1]

theorem edges_ring (N : Nat) (rings R2 : List (List Int)) (ln : Int) (i : Int) (l : List Int) (hg : Rt l) (hrg : ∀ x ∈ l, -9223372036854775808 ≤ x ∧ x ≤ 9223372036854775807) :
    ∀ (m j cnt : Nat) (acc : List Edge), j + m = l.length → acc.length + m < 1073741824 → m < cnt →
    iterO fedges_s1 cnt ((N : Int), rings, acc, R2, ln, i, l, (l.length : Int), (j : Int), ()) = some (.inl ((N : Int), rings, acc ++ arcsUp (N : Int) (l.drop j), R2, ln, i, ())) := by
  have hl := hg.1
  intro m
  induction m with
  | zero =>
    intro j cnt acc hj _ hc
    obtain ⟨cnt, rfl⟩ : ∃ c, cnt = c + 1 := ⟨cnt - 1, by omega⟩
    rw [iterO, fedges_s1, ilt_nat, decide_eq_false (by omega), List.drop_of_length_le (by omega)]
    simp [arcsUp]
  | succ m ih =>
    intro j cnt acc hj hacc hc
    obtain ⟨cnt, rfl⟩ : ∃ c, cnt = c + 1 := ⟨cnt - 1, by omega⟩
    have hj' : j < l.length := by omega
    have hx : l[j]? = some l[j] := List.getElem?_eq_getElem hj'
    have hr := hrg _ (List.getElem_mem hj')
    rw [iterO, fedges_s1, ilt_nat, decide_eq_true hj', List.drop_eq_getElem_cons hj']
    simp only [idx_some hx, ttoken_val (N : Int) _ hr]
    rw [wrap_add1 (by omega), arcsUp, List.filterMap_cons, upI]
    generalize l[j] = t at *
    have hih := ih (j + 1) cnt
    rw [arcsUp] at hih
    cases ht : tokOf (N : Int) t with
    | none => exact hih acc (by omega) (by omega) (by omega)
    | some x =>
      cases x with
      | ver v => exact hih acc (by omega) (by omega) (by omega)
      | arc u v =>
        simp only [tokR, ilt_eq, Option.bind_some, upT]
        by_cases huv : u < v
        · rw [decide_eq_true huv, fits_l (by simp only [dlen_l, List.length_cons, List.length_nil]; omega)]
          have := hih (acc ++ [(u, v, ())]) (by omega) (by simp; omega) (by omega)
          simp only [huv, if_true, dapp_l]
          rw [this, List.append_assoc]
          rfl
        · rw [decide_eq_false huv]
          simp only [huv, if_false]
          exact hih acc (by omega) (by omega) (by omega)

theorem edges_rings (N : Nat) (rings : List (List Int)) (hlen : rings.length ≤ 64) (hg : ∀ l ∈ rings, RG (N : Int) l) :
    ∀ (m i cnt : Nat) (acc : List Edge), i + m = rings.length → acc.length ≤ 1000 * i → m < cnt →
    iterO fedges_s0 cnt ((N : Int), rings, acc, rings, (rings.length : Int), (i : Int), ()) = some (.inl (acc ++ (rings.drop i).flatMap (arcsUp (N : Int)), ())) := by
  have hmany : 9223372036854775808 < many := by simp only [many]; omega
  intro m
  induction m with
  | zero =>
    intro i cnt acc hi _ hc
    obtain ⟨cnt, rfl⟩ : ∃ c, cnt = c + 1 := ⟨cnt - 1, by omega⟩
    rw [iterO, fedges_s0, ilt_nat, decide_eq_false (by omega), List.drop_of_length_le (by omega)]
    simp
  | succ m ih =>
    intro i cnt acc hi hacc hc
    obtain ⟨cnt, rfl⟩ : ∃ c, cnt = c + 1 := ⟨cnt - 1, by omega⟩
    have hi' : i < rings.length := by omega
    have hx : rings[i]? = some rings[i] := List.getElem?_eq_getElem hi'
    have hgl := hg _ (List.getElem_mem hi')
    rw [iterO, fedges_s0, ilt_nat, decide_eq_true hi', List.drop_eq_getElem_cons hi']
    simp only [idx_some hx, iterL_eq, dlen_l]
    generalize rings[i] = l at *
    have hl := hgl.1.1
    have e := edges_ring N rings rings (rings.length : Int) (i : Int) l hgl.1 (fun x hx => by have := hgl.1.2.1 x hx; omega) l.length 0 many acc (by omega) (by omega) (by omega)
    rw [List.drop_zero] at e
    have e' : iterO fedges_s1 many ((N : Int), rings, acc, rings, (rings.length : Int), (i : Int), l, (l.length : Int), (0 : Int), ()) = _ := e
    simp only [e']
    rw [wrap_add1 (by omega)]
    have hup : (arcsUp (N : Int) l).length ≤ l.length := List.length_filterMap_le _ _
    have := ih (i + 1) cnt (acc ++ arcsUp (N : Int) l) (by omega) (by rw [List.length_append]; omega) (by omega)
    rw [this, List.flatMap_cons, List.append_assoc]

theorem fedges_val {n : Int} {rings : List (List Int)} (h : FR n rings) : ∃ ys, fedges ((n, (rings, ())), ()) = some (ys, ()) ∧ ys.Perm (rings.flatMap (arcsUp n)) ∧ ys.Pairwise (fun x y => SE.lt y x = false) := by
  have hmany : 9223372036854775808 < many := by simp only [many]; omega
  have hD := h.dom
  have hRF := RF_iff.2 h
  have hl := okR_len h.sz.1 hRF.2.1 (by omega) (by have := h.sz.1; omega)
  obtain ⟨s1, s2⟩ := h.sz
  obtain ⟨N, rfl⟩ := Int.eq_ofNat_of_zero_le (show 0 ≤ n by omega)
  have e := edges_rings N rings (by omega) h.rg rings.length 0 many [] (by omega) (by simp) (by omega)
  rw [List.drop_zero, List.nil_append] at e
  have e' : iterO fedges_s0 many ((N : Int), rings, [], rings, (rings.length : Int), (0 : Int), ()) = _ := e
  have hlen : (rings.flatMap (arcsUp (N : Int))).length < 4294967296 := by
    have key : ∀ (ls : List (List Int)), (∀ l ∈ ls, RG (N : Int) l) → (ls.flatMap (arcsUp (N : Int))).length ≤ 1000 * ls.length := by
      intro ls
      induction ls with
      | nil => intro _; simp
      | cons l ls ih =>
        intro hg
        have h1 := ih fun k hk => hg k (List.mem_cons_of_mem _ hk)
        have h2 := (hg l (by simp)).1.1
        have h3 : (arcsUp (N : Int) l).length ≤ l.length := List.length_filterMap_le _ _
        rw [List.flatMap_cons, List.length_append, List.length_cons]
        omega
    have := key rings h.rg
    omega
  obtain ⟨ys, y1, y2, y3⟩ := SE.sort_val (rings.flatMap (arcsUp (N : Int))) hlen (fun _ _ => trivial)
  rw [fedges_eq, fedges_d]
  simp only [tright_val _ _ hD.1 hD.2, hRF, decide_true, Bool.not_true, iterL_eq, dlen_l, e', y1]
  exact ⟨ys, rfl, y2, y3⟩

theorem verts_all {N : Nat} {rings : List (List Int)} (h : FR (N : Int) rings) : ∀ (ls : List (List Int)), (∀ l ∈ ls, l ∈ rings) → (ls.flatMap (verts (N : Int))).length = (ls.flatMap (arcsUp (N : Int))).length + ls.length := by
  intro ls
  induction ls with
  | nil => intro _; rfl
  | cons l ls ih =>
    intro hg
    have h1 := ih fun k hk => hg k (List.mem_cons_of_mem _ hk)
    have h2 := arcsUp_len (h.rg l (hg l (by simp)))
    rw [List.flatMap_cons, List.flatMap_cons, List.length_append, List.length_append, List.length_cons]
    omega
theorem verts_count {N : Nat} {rings : List (List Int)} (h : FR (N : Int) rings) : (rings.flatMap (verts (N : Int))).length = N := by
  have hn : (rings.flatMap (verts (N : Int))).Nodup := by
    rw [List.Nodup, List.pairwise_flatMap]
    refine ⟨fun l hl => (verts_up (N : Int) l).imp fun h => by omega, ?_⟩
    exact h.dis.imp fun {a b} hd x hx y hy e => by
      subst e
      exact hd x ((verts_mem x).1 hx).2.2 ((verts_mem x).1 hx).2.1 ((verts_mem x).1 hy).2.2
  have hrn : ((List.range N).map (fun (k : Nat) => (k : Int))).Nodup := by
    rw [List.Nodup, List.pairwise_map]
    exact List.nodup_range.imp fun h e => h (by omega)
  have a1 := nodup_sub_len (b := (List.range N).map (fun (k : Nat) => (k : Int))) hn fun x hx => by
    rw [List.mem_flatMap] at hx
    obtain ⟨l, _, hx⟩ := hx
    have := (verts_mem x).1 hx
    rw [List.mem_map]
    exact ⟨x.toNat, by rw [List.mem_range]; omega, by omega⟩
  have a2 := nodup_sub_len (b := rings.flatMap (verts (N : Int))) hrn fun x hx => by
    rw [List.mem_map] at hx
    obtain ⟨k, hk, rfl⟩ := hx
    rw [List.mem_range] at hk
    obtain ⟨l, hl, hm⟩ := h.cov (k : Int) ⟨h.sz.1, h.sz.2, by omega, by omega⟩
    rw [List.mem_flatMap]
    exact ⟨l, hl, (verts_mem _).2 ⟨by omega, by omega, hm⟩⟩
  simp only [List.length_map, List.length_range] at a1 a2
  omega
/-- as many edges as vertices less trees -/
theorem edges_count {N : Nat} {rings : List (List Int)} (h : FR (N : Int) rings) : (rings.flatMap (arcsUp (N : Int))).length + rings.length = N := by
  rw [← verts_all h rings fun l hl => hl, verts_count h]

section
variable {n : Int} {rings : List (List Int)}
theorem fleast_val (h : FR n rings) {i : Nat} {A : List Int} {v : Int} (iv : In n v) (hi : rings[i]? = some A) (hv : v ∈ A) : fleast ((n, (rings, ())), v, ()) = some (hd A, 0, ()) := by
  have hD := h.dom
  have hRF := RF_iff.2 h
  have gA := h.rg A (List.mem_of_getElem? hi)
  have ht : fthere ((n, (rings, ())), [v], ()) = some (0, ()) := by
    rw [fthere_val n rings _ hD (by simp), askE]
    simp [hRF, iv]
  have i0 : idx A (0 : Int) = some (hd A) := by
    cases A with
    | nil => exact absurd rfl gA.2.1
    | cons x A => rw [idx_zero]; rfl
  rw [fleast_eq, fleast_d]
  simp only [ht, ieq_self, Bool.not_true, tof_val n rings v hD, hRF, iv, and_self, if_true, h.plc_eq hi iv.2.2.2 hv, idx_some hi, i0]
end
end Go.Pev.Pl
end
section
/- The fixed fact. -/
namespace Go.Pev.Pl
open Go.RowKit Tok
theorem alive19_true : alive19 () = some (true, ()) := by
  rw [show alive19 () = @alive19 idI () from congrArg (fun i => @alive19 i ()) lockI_eq]
  kernel_rfl

end Go.Pev.Pl
end
section
/- The law ForestOrder of the models. -/
namespace Go.Pev.Pl
open Go.RowKit Tok

def swapE (e : Edge) : Edge := (e.2.1, (e.1, ()))
theorem turned_loop (l : List Edge) (hl : l.length ≤ 25) (d1 d2 : Int) (d3 : List (List Int)) (d4 : Int) : ∀ (m cnt : Nat) (acc : List Edge), m ≤ l.length → acc.length + m ≤ 25 → m < cnt →
    iterO forestOrder_s0 cnt (l, d1, d2, d3, d4, acc, (m : Int) - 1, ()) = some (.inl (l, d1, d2, d3, d4, acc ++ ((l.take m).reverse.map swapE), ())) := by
  intro m
  induction m with
  | zero =>
    intro cnt acc hm ha hc
    obtain ⟨cnt, rfl⟩ : ∃ c, cnt = c + 1 := ⟨cnt - 1, by omega⟩
    rw [iterO, forestOrder_s0, ile_eq, decide_eq_false (by omega)]
    simp
  | succ m ih =>
    intro cnt acc hm ha hc
    obtain ⟨cnt, rfl⟩ : ∃ c, cnt = c + 1 := ⟨cnt - 1, by omega⟩
    have hm' : m < l.length := by omega
    have hx : l[m]? = some l[m] := List.getElem?_eq_getElem hm'
    have e1 : ((m + 1 : Nat) : Int) - 1 = (m : Int) := by omega
    rw [iterO, forestOrder_s0, e1, ile_eq, decide_eq_true (by omega)]
    simp only [idx_some hx]
    rw [fits_l (by simp only [dlen_l, List.length_cons, List.length_nil]; omega), wrap_in (n := (m : Int) - 1) (by omega)]
    simp only [dapp_l]
    rw [ih cnt _ (by omega) (by simp; omega) (by omega), List.take_succ_eq_append_getElem hm']
    simp only [List.reverse_append, List.reverse_cons, List.reverse_nil, List.nil_append, List.map_append, List.map_cons, List.map_nil, List.append_assoc, List.singleton_append]
    rfl

theorem swap_con (l : List Edge) (a b : Int) : Con (l.reverse.map swapE) a b ↔ Con l a b := by
  constructor
  · exact Con.mono fun e he => by
      obtain ⟨e', h1, rfl⟩ := List.mem_map.1 he
      exact ⟨e', by simpa using h1, .inr ⟨rfl, rfl⟩⟩
  · exact Con.mono fun e he => ⟨swapE e, List.mem_map.2 ⟨e, by simpa using he, rfl⟩, .inr ⟨rfl, rfl⟩⟩
theorem swap_all {n : Int} (l : List Edge) : (∀ e ∈ l.reverse.map swapE, In n e.1 ∧ In n e.2.1) ↔ ∀ e ∈ l, In n e.1 ∧ In n e.2.1 := by
  constructor
  · intro h e he
    have := h (swapE e) (List.mem_map.2 ⟨e, by simpa using he, rfl⟩)
    exact ⟨this.2, this.1⟩
  · intro h e he
    obtain ⟨e', h1, rfl⟩ := List.mem_map.1 he
    have := h e' (by simpa using h1)
    exact ⟨this.2, this.1⟩

/-- the first token of a ring: the least vertex that edges lead to -/
theorem hd_least {n : Int} {rings : List (List Int)} {l : List Edge} (h : FC n rings l) {A : List Int} {u : Int} (hA : A ∈ rings) (iu : In n u) (hu : u ∈ A) : In n (hd A) ∧ Con l u (hd A) ∧ ∀ b, In n b → Con l u b → hd A ≤ b := by
  have gA := h.fr.rg A hA
  have ih := RG_head gA
  refine ⟨ih, (h.sam u (hd A) iu ih).1 ⟨A, hA, hu, hd_mem gA.2.1⟩, fun b ib hc => ?_⟩
  obtain ⟨K, hK, k1, k2⟩ := (h.sam u b iu ib).2 hc
  have := h.fr.one hA hK iu.2.2.2 hu k1
  subst this
  have h4 := (minL_spec gA.2.1).2 _ k2
  rw [gA.2.2.1] at h4
  exact h4
theorem hds_mem {n : Int} {rings : List (List Int)} {l : List Edge} (h : FC n rings l) (v : Int) : v ∈ rings.map hd ↔ In n v ∧ ∀ b, In n b → Con l v b → v ≤ b := by
  rw [List.mem_map]
  constructor
  · rintro ⟨A, hA, rfl⟩
    have gA := h.fr.rg A hA
    have ih := RG_head gA
    exact ⟨ih, fun b ib hc => (hd_least h hA ih (hd_mem gA.2.1)).2.2 b ib hc⟩
  · rintro ⟨iv, hmin⟩
    obtain ⟨A, hA, hv⟩ := h.fr.cov v iv
    obtain ⟨h1, h2, h3⟩ := hd_least h hA iv hv
    refine ⟨A, hA, ?_⟩
    have := hmin _ h1 h2
    have := h3 v iv (.refl _)
    omega
theorem rings_same {n : Int} {r1 r2 : List (List Int)} {l1 l2 : List Edge} (h1 : FC n r1 l1) (h2 : FC n r2 l2) (hc : ∀ a b, Con l1 a b ↔ Con l2 a b) : r1.length = r2.length := by
  have n1 : (r1.map hd).Nodup := by
    rw [List.Nodup, List.pairwise_map]
    exact h1.fr.up.imp fun h => by omega
  have n2 : (r2.map hd).Nodup := by
    rw [List.Nodup, List.pairwise_map]
    exact h2.fr.up.imp fun h => by omega
  have key : ∀ v, v ∈ r1.map hd ↔ v ∈ r2.map hd := fun v => by
    rw [hds_mem h1, hds_mem h2]
    constructor
    · rintro ⟨a, b⟩; exact ⟨a, fun x ix hx => b x ix ((hc _ _).2 hx)⟩
    · rintro ⟨a, b⟩; exact ⟨a, fun x ix hx => b x ix ((hc _ _).1 hx)⟩
  have a1 := nodup_sub_len n1 fun x hx => (key x).1 hx
  have a2 := nodup_sub_len n2 fun x hx => (key x).2 hx
  simp only [List.length_map] at a1 a2
  omega

/-- an edge of a forest: its arc is in a ring -/
def Own (n : Int) (rings : List (List Int)) (e : Edge) : Prop := e.1 < e.2.1 ∧ okT n (.arc e.1 e.2.1) ∧ ∃ A ∈ rings, arcT n e.1 e.2.1 ∈ A

theorem arc_ends {n u v : Int} {A : List Int} (h : TI n A) (ho : okT n (.arc u v)) (hm : arcT n u v ∈ A) : u ∈ A := by
  obtain ⟨L, q1, q2, q3⟩ := h
  rw [arcT_enc ho, q1, mem_enc q2 ho] at hm
  have := (q3.facts.2.2 u v hm).1
  rw [q1]
  exact (mem_enc q2 (show okT n (.ver u) from ho.1)).2 this

theorem cut_edge {n : Int} {rings : List (List Int)} {e : Edge} (h : FR n rings) (ho : Own n rings e) : ∃ zs, tcut ((n, (rings, ())), e.1, e.2.1, ()) = some (n, zs, 0, ()) ∧ FR n zs ∧ zs.length = rings.length + 1 ∧ ∀ e', e' ≠ e → Own n rings e' → Own n zs e' := by
  obtain ⟨h1, h2, A, hA, hm⟩ := ho
  obtain ⟨i, hi⟩ : ∃ i : Nat, rings[i]? = some A := by
    obtain ⟨k, hk, rfl⟩ := List.getElem_of_mem hA
    exact ⟨k, List.getElem?_eq_getElem hk⟩
  have gA := h.rg A hA
  have hu := arc_ends gA.2.2.2 h2 hm
  obtain ⟨zs, rest, p, q, c1, c3, c4, c5, c6, tp, tq, _, _, _, _, _⟩ := cut_ok h h2.1 h2.2.1 hi hu hm
  have len1 := c4.length_eq
  have len2 := c5.length_eq
  simp only [List.length_cons] at len1 len2
  refine ⟨zs, c1, c3, by omega, fun e' hne ⟨g1, g2, K, hK, g3⟩ => ⟨g1, g2, ?_⟩⟩
  rcases List.mem_cons.1 (c4.mem_iff.1 hK) with rfl | hK
  · have hp := (rotAt_irot hm).perm.mem_iff.1 g3
    rw [c6, List.mem_cons, List.mem_append, List.mem_cons] at hp
    rcases hp with k | k | k | k
    · rw [arcT_enc g2, arcT_enc h2] at k
      have := enc_inj g2 h2 k
      exfalso
      apply hne
      obtain ⟨x, y, z⟩ := e
      obtain ⟨x', y', z'⟩ := e'
      cases this
      rfl
    · exact ⟨plain p, c5.mem_iff.2 (by simp), (RG_plain tp).2.perm.mem_iff.1 k⟩
    · rw [arcT_enc g2, arcT_enc (okT_swap h2)] at k
      have := enc_inj g2 (okT_swap h2) k
      simp only [Tok.arc.injEq] at this
      omega
    · exact ⟨plain q, c5.mem_iff.2 (by simp), (RG_plain tq).2.perm.mem_iff.1 k⟩
  · exact ⟨K, c5.mem_iff.2 (by simp [hK]), g3⟩

theorem cuts_all {n : Int} (own : List Edge) (hs : own.length < 1073741824) (hnd : own.Nodup) :
    ∀ (m i cnt : Nat) (rings : List (List Int)), i + m = own.length → FR n rings → (∀ e ∈ own.drop i, Own n rings e) → m < cnt →
    ∃ zs, iterO eachCut_s0 cnt (n, rings, (0 : Int), List.replicate i true, own, (own.length : Int), (i : Int), ()) = some (.inl (n, zs, (0 : Int), List.replicate own.length true, ())) ∧ FR n zs ∧ zs.length = rings.length + m := by
  intro m
  induction m with
  | zero =>
    intro i cnt rings hi h _ hc
    obtain ⟨cnt, rfl⟩ : ∃ c, cnt = c + 1 := ⟨cnt - 1, by omega⟩
    refine ⟨rings, ?_, h, by omega⟩
    have : i = own.length := by omega
    subst this
    rw [iterO, eachCut_s0, ilt_nat, decide_eq_false (by omega)]
  | succ m ih =>
    intro i cnt rings hi h ho hc
    obtain ⟨cnt, rfl⟩ : ∃ c, cnt = c + 1 := ⟨cnt - 1, by omega⟩
    have hi' : i < own.length := by omega
    have hx : own[i]? = some own[i] := List.getElem?_eq_getElem hi'
    have hdr : own.drop i = own[i] :: own.drop (i + 1) := List.drop_eq_getElem_cons hi'
    have hnd2 : (own.drop i).Nodup := hnd.sublist (List.drop_sublist _ _)
    rw [hdr] at ho hnd2
    rw [List.nodup_cons] at hnd2
    obtain ⟨zs, e1, e2, e3, e4⟩ := cut_edge h (ho own[i] List.mem_cons_self)
    rw [iterO, eachCut_s0, ilt_nat, decide_eq_true hi']
    simp only [idx_some hx, e1, ieq_self]
    rw [wrap_add1 (by omega), fits_l (by simp only [dlen_l, List.length_cons, List.length_nil, List.length_replicate]; omega)]
    have hrep : dapp (List.replicate i true) [true] = List.replicate (i + 1) true := by rw [dapp_l, List.replicate_succ']
    rw [hrep]
    obtain ⟨zs2, f1, f2, f3⟩ := ih (i + 1) cnt zs (by omega) e2 (fun e he => e4 e (by rintro rfl; exact hnd2.1 he) (ho e (List.mem_cons_of_mem _ he))) (by omega)
    exact ⟨zs2, f1, f2, by omega⟩

theorem came_loop (l : List Edge) (hl : l.length ≤ 25) (own : List Edge) (q : Nat) (e : Edge) (hq : own[q]? = some e) (d1 d2 : Int) (d3 : List (List Int)) (d4 : Int) (d5 : List (List Int)) (d7 : Int) (d8 : List (List Int)) (d9 : List Bool) (d10 : Int) :
    iterL forestOrder_s3 many (l, d1, d2, d3, d4, d5, own, d7, d8, d9, d10, (q : Int), false, (0 : Int), ()) = some (.inl (l, d1, d2, d3, d4, d5, own, d7, d8, d9, d10, (q : Int), l.any (fun x => decide (imin x.1 x.2.1 = e.1) && decide (imax x.1 x.2.1 = e.2.1)), ())) := by
  have g := walkL (step := forestOrder_s3) (fun i (c : Bool) => (l, d1, d2, d3, d4, d5, own, d7, d8, d9, d10, (q : Int), c, (i : Int), ())) l
    (fun x c => .inl (c || (decide (imin x.1 x.2.1 = e.1) && decide (imax x.1 x.2.1 = e.2.1)))) (fun c => .inl (l, d1, d2, d3, d4, d5, own, d7, d8, d9, d10, (q : Int), c, ())) (fun _ _ => True) (by omega)
    (fun i x c hi hx _ => by
      refine ⟨fun m' h' => ?_, fun r h' => by cases h'⟩
      cases h'
      unfold forestOrder_s3
      simp only [dlen_l]
      rw [ilt_nat, decide_eq_true hi]
      simp only []
      rw [wrap_add1 (by omega)]
      cases c
      · simp only [idx_some hx, idx_some hq, ieq_dec]
        by_cases h1 : imin x.1 x.2.1 = e.1
        · rw [decide_eq_true h1]
          exact ⟨by simp, trivial⟩
        · rw [decide_eq_false h1]
          exact ⟨by simp, trivial⟩
      · exact ⟨by simp, trivial⟩)
    (fun c _ => by unfold forestOrder_s3; simp only [dlen_l]; rw [ilt_nat, decide_eq_false (by omega)]) false trivial
  have g' : iterL forestOrder_s3 many (l, d1, d2, d3, d4, d5, own, d7, d8, d9, d10, (q : Int), false, (0 : Int), ()) = _ := g
  rw [g', walk_fold]
  have hf : ∀ (xs : List Edge) (c : Bool), xs.foldl (fun c x => c || (decide (imin x.1 x.2.1 = e.1) && decide (imax x.1 x.2.1 = e.2.1))) c = (c || xs.any (fun x => decide (imin x.1 x.2.1 = e.1) && decide (imax x.1 x.2.1 = e.2.1))) := by
    intro xs
    induction xs with
    | nil => intro c; simp
    | cons x xs ih => intro c; rw [List.foldl_cons, ih, List.any_cons, Bool.or_assoc]
  rw [hf, Bool.false_or]

theorem forestOrder_true (n : Int) (l : List Edge) (h0 : wfD (.int .u8) n) (h1 : wfD (.slice (.prod (.int .i64) (.prod (.int .i64) .unit))) l) : forestOrder (n, l, ()) = some (true, ()) := by
  have hmany : 9223372036854775808 < many := by simp only [many]; omega
  have hn : 0 ≤ n ∧ n ≤ 255 := h0
  obtain ⟨a, rfl⟩ := Int.eq_ofNat_of_zero_le hn.1
  rw [forestOrder_eq, forestOrder_d]
  simp only [alive19_true, Bool.not_true]
  rw [wrap_in (n := (a : Int)) (by omega), show (10 : Int) = ((10 : Nat) : Int) from rfl, rem_nat (by omega)]
  simp only [dlen_l, ilt_eq]
  by_cases hl : 25 < l.length
  · rw [decide_eq_true (by omega)]
  · rw [decide_eq_false (by omega)]
    simp only []
    have hk : IntKind.wrap .i64 ((1 : Int) + ((a % 10 : Nat) : Int)) = ((1 + a % 10 : Nat) : Int) := by rw [wrap_in (by omega)]; omega
    rw [hk, wrap_in (n := (l.length : Int) - 1) (by omega)]
    have hN1 : 1 ≤ 1 + a % 10 := by omega
    have hN2 : 1 + a % 10 ≤ 64 := by omega
    generalize 1 + a % 10 = N at *
    have hS : Sz (N : Int) := ⟨by omega, by omega⟩
    have ht : ∀ d2 d3 d4, iterO forestOrder_s0 many (l, (N : Int), d2, d3, d4, [], (l.length : Int) - 1, ()) = some (.inl (l, (N : Int), d2, d3, d4, l.reverse.map swapE, ())) := fun d2 d3 d4 => by
      have := turned_loop l (by omega) (N : Int) d2 d3 d4 l.length many [] (by omega) (by simp; omega) (by omega)
      rw [List.take_length, List.nil_append] at this
      exact this
    have htl : (l.reverse.map swapE).length < 1073741824 := by simp; omega
    rcases fof_val (N : Int) l hS (by omega) with ⟨ha, rings, e, h⟩ | ⟨ha, e⟩
    · rcases fof_val (N : Int) (l.reverse.map swapE) hS htl with ⟨ha2, rings2, e2, h2⟩ | ⟨ha2, _⟩
      · have hF := h.fr
        have hl1 := fun v (iv : In (N : Int) v) => plc_in (hF.cov v iv)
        have hl2 := fun v (iv : In (N : Int) v) => plc_in (h2.fr.cov v iv)
        -- the least ones are the same
        have ls := scanL (step := forestOrder_s1) (fun i => (l, (N : Int), (N : Int), rings, (N : Int), rings2, (i : Int), ())) N (fun _ => false) (fun _ => .inl (false, ())) (.inr (.inl (l, (N : Int), (N : Int), rings, (N : Int), rings2, ()))) (by omega)
          (fun i hi => by
            have iv : In (N : Int) (i : Int) := ⟨by omega, by omega, by omega, by omega⟩
            obtain ⟨x, A, _, hx, hxa, _⟩ := hl1 _ iv
            obtain ⟨y, B, _, hy, hyb, _⟩ := hl2 _ iv
            obtain ⟨p1, p2, p3⟩ := hd_least h (List.mem_of_getElem? hx) iv hxa
            obtain ⟨r1, r2, r3⟩ := hd_least h2 (List.mem_of_getElem? hy) iv hyb
            have he : hd A = hd B := by
              have := p3 _ r1 ((swap_con l _ _).1 r2)
              have := r3 _ p1 ((swap_con l _ _).2 p2)
              omega
            rw [forestOrder_s1, ilt_nat, decide_eq_true hi]
            simp only [fleast_val hF iv hx hxa, fleast_val h2.fr iv hy hyb, he, ieq_self, Bool.not_true]
            rw [wrap_add1 (by omega)]
            simp)
          (by rw [forestOrder_s1, ilt_nat, decide_eq_false (by omega)])
        have lse : iterL forestOrder_s1 many (l, (N : Int), (N : Int), rings, (N : Int), rings2, (0 : Int), ()) = some (.inr (.inl (l, (N : Int), (N : Int), rings, (N : Int), rings2, ()))) := by
          rcases ls with ⟨_, _, h, _⟩ | ⟨_, e⟩
          · cases h
          · exact e
        -- the edges, cut
        obtain ⟨own, y1, y2, y3⟩ := fedges_val hF
        have hcnt := edges_count hF
        have hyl := y2.length_eq
        have hown : ∀ e ∈ own, Own (N : Int) rings e := fun e he => by
          have := y2.mem_iff.1 he
          rw [List.mem_flatMap] at this
          obtain ⟨A, hA, hm⟩ := this
          obtain ⟨q1, q2, q3⟩ := arcsUp_mem.1 hm
          exact ⟨q1, q2, A, hA, q3⟩
        have hnd : own.Nodup := by
          rw [y2.nodup_iff, List.Nodup, List.pairwise_flatMap]
          refine ⟨fun A hA => ?_, ?_⟩
          · have gA := hF.rg A hA
            rw [arcsUp, List.pairwise_filterMap]
            refine gA.1.2.2.imp_of_mem fun {x y} hx hy hne b hb c hc e => ?_
            subst e
            rw [upI, Option.bind_eq_some_iff] at hb hc
            obtain ⟨t1, a1, a2⟩ := hb
            obtain ⟨t2, b1, b2⟩ := hc
            cases t1 with
            | ver v => cases a2
            | arc u v =>
              cases t2 with
              | ver v => cases b2
              | arc u' v' =>
                simp only [upT] at a2 b2
                split at a2
                · split at b2
                  · cases a2
                    cases b2
                    exact hne ((enc_tokOf a1).2.symm.trans (enc_tokOf b1).2)
                  · cases b2
                · cases a2
          · exact hF.dis.imp_of_mem fun {A B} hA hB hd e he e' he' hee => by
              subst hee
              obtain ⟨_, q2, q3⟩ := arcsUp_mem.1 he
              obtain ⟨_, _, r3⟩ := arcsUp_mem.1 he'
              exact hd _ (arc_ends (hF.rg A hA).2.2.2 q2 q3) q2.1.2.2.2 (arc_ends (hF.rg B hB).2.2.2 q2 r3)
        have hpos : 0 < rings.length := by
          obtain ⟨A, hA, _⟩ := hF.cov 0 ⟨by omega, by omega, by omega, by omega⟩
          exact List.length_pos_of_mem hA
        obtain ⟨zs, z1, z2, z3⟩ := cuts_all own (by omega) hnd own.length 0 many rings (by omega) hF (by rw [List.drop_zero]; exact hown) (by omega)
        have z1' : iterO eachCut_s0 many ((N : Int), rings, (0 : Int), [], own, (own.length : Int), (0 : Int), ()) = _ := z1
        have hD := hF.dom
        have hth : fthere (((N : Int), (rings, ())), own.flatMap fun e => [e.1, e.2.1], ()) = some (0, ()) := by
          rw [fthere_val _ _ _ hD (by rw [ends_len]; omega), ends_all, askE, if_pos (RF_iff.2 hF), if_pos (List.all_eq_true.2 fun e he => decide_eq_true ⟨(hown e he).2.1.1, (hown e he).2.1.2.1⟩)]
        have hcuts : fcuts (((N : Int), (rings, ())), own, ()) = some (((N : Int), (zs, ())), List.replicate own.length true, 0, ()) := by
          rw [fcuts_eq, fcuts_d, eachCut_eq, eachCut_d]
          simp only [ends_val own (by omega), hth, ieq_self, Bool.not_true, iterL_eq, dlen_l, z1']
        -- each came, and was taken
        have ms := scanL (step := forestOrder_s2) (fun i => (l, (N : Int), (N : Int), rings, (N : Int), rings2, own, (N : Int), zs, List.replicate own.length true, (0 : Int), (i : Int), ())) own.length (fun _ => false) (fun _ => .inl (false, ())) (.inr (.inl ((N : Int), (N : Int), rings, (N : Int), rings2, (N : Int), zs, (0 : Int), ()))) (by omega)
          (fun i hi => by
            have hx : own[i]? = some own[i] := List.getElem?_eq_getElem hi
            obtain ⟨o1, o2, A, hA, o3⟩ := hown _ (List.getElem_mem hi)
            have hcame := came_loop l (by omega) own i own[i] hx (N : Int) (N : Int) rings (N : Int) rings2 (N : Int) zs (List.replicate own.length true) (0 : Int)
            have hany : l.any (fun x => decide (imin x.1 x.2.1 = (own[i]).1) && decide (imax x.1 x.2.1 = (own[i]).2.1)) = true := by
              obtain ⟨x, hx1, hx2⟩ := h.arcs A hA _ _ o2 o3
              refine List.any_eq_true.2 ⟨x, hx1, ?_⟩
              rw [Bool.and_eq_true, decide_eq_true_eq, decide_eq_true_eq, imin, imax]
              rcases hx2 with ⟨g1, g2⟩ | ⟨g1, g2⟩
              · rw [g1, g2]
                constructor <;> split <;> omega
              · rw [g1, g2]
                constructor <;> split <;> omega
            rw [hany] at hcame
            have htk : (List.replicate own.length true)[i]? = some true := by simp [hi]
            rw [forestOrder_s2, dlen_l, ilt_nat, decide_eq_true hi]
            simp only [hcame, Bool.not_true, dlen_l, List.length_replicate]
            rw [ile_nat, decide_eq_false (by omega)]
            simp only [idx_some htk, dget_some htk, Bool.not_true]
            rw [wrap_add1 (by omega)]
            simp)
          (by rw [forestOrder_s2, dlen_l, ilt_nat, decide_eq_false (by omega)])
        have mse : iterL forestOrder_s2 many (l, (N : Int), (N : Int), rings, (N : Int), rings2, own, (N : Int), zs, List.replicate own.length true, (0 : Int), (0 : Int), ()) = some (.inr (.inl ((N : Int), (N : Int), rings, (N : Int), rings2, (N : Int), zs, (0 : Int), ()))) := by
          rcases ms with ⟨_, _, h, _⟩ | ⟨_, e⟩
          · cases h
          · exact e
        have hrs := rings_same h h2 fun a b => (swap_con l a b).symm
        simp only [e, iterL_eq, ht, e2, ieq_self, Bool.not_true]
        rw [← iterL_eq, lse]
        simp only [y1, hcuts]
        rw [← iterL_eq, mse]
        simp only [ieq_self]
        rw [ieq_nat, decide_eq_true (by omega)]
        simp only []
        rw [ieq_nat, decide_eq_true hrs]
      · exact absurd ((swap_all l).2 ha) ha2
    · rcases fof_val (N : Int) (l.reverse.map swapE) hS htl with ⟨ha2, _⟩ | ⟨_, e2⟩
      · exact absurd ((swap_all l).1 ha2) ha
      · simp only [e, iterL_eq, ht, e2, ieq_self]
        rw [ieq_dec, decide_eq_false (by omega)]
        rfl
end Go.Pev.Pl
end
section
/- The models are what the program computes. Printed by a program. -/
namespace Go.Pev
open Go.Proofs
set_option maxRecDepth 100000
noncomputable section
-- archipelago/archipelagoref18.in
abbrev in18_h : Hints := {  }
theorem in18_okd : ∀ v, in18_d v = pevCall Tryz.prog Env.none in18_h Tryz.f47 in18_i in18_o in18_r v := by
  rintro ⟨a0, a1, ⟨⟩⟩
  kernel_rfl
theorem in18_q : loopList (bodyOf Tryz.f47) 0 = [] := by kernel_rfl
theorem in18_spec : SpecOK Tryz.prog 47 (mkCall 2 in18_i in18_o in18_r in18) := call_spec Env.none_ok Tryz.func47 (by kernel_rfl) (by kernel_rfl) rfl (fun v => (in18_eq v).trans (in18_okd v)) (LoopsOK_of in18_q trivial)
def E_in18 : Env := Env.none.ext 47 true true (mkCall 2 in18_i in18_o in18_r in18)
theorem E_in18_ok : EnvOK Tryz.prog E_in18 := Env.ext_ok Env.none_ok in18_spec (fun _ => mkCall_local rfl rfl) (fun _ => mkCall_in rfl rfl)

-- archipelago/archipelagoref18.Token
abbrev token18_h : Hints := { fp := fun n => match n with | 5 => [[], [], [], [], [], [], [], [], [], [], [], []] | _ => [] }
theorem token18_okd : ∀ v, token18_d v = pevCall Tryz.prog E_in18 token18_h Tryz.f100 token18_i token18_o token18_r v := by
  rintro ⟨a0, a1, ⟨⟩⟩
  kernel_rfl
theorem token18_q : loopList (bodyOf Tryz.f100) 0 = [] := by kernel_rfl
theorem token18_spec : SpecOK Tryz.prog 100 (mkCall 2 token18_i token18_o token18_r token18) := call_spec E_in18_ok Tryz.func100 (by kernel_rfl) (by kernel_rfl) rfl (fun v => (token18_eq v).trans (token18_okd v)) (LoopsOK_of token18_q trivial)
def E_token18 : Env := E_in18.ext 100 true true (mkCall 2 token18_i token18_o token18_r token18)
theorem E_token18_ok : EnvOK Tryz.prog E_token18 := Env.ext_ok E_in18_ok token18_spec (fun _ => mkCall_local rfl rfl) (fun _ => mkCall_in rfl rfl)

-- archipelago/archipelagoref18.Arc
abbrev arc18_h : Hints := {  }
theorem arc18_okd : ∀ v, arc18_d v = pevCall Tryz.prog E_token18 arc18_h Tryz.f101 arc18_i arc18_o arc18_r v := by
  rintro ⟨a0, a1, a2, ⟨⟩⟩
  kernel_rfl
theorem arc18_q : loopList (bodyOf Tryz.f101) 0 = [] := by kernel_rfl
theorem arc18_spec : SpecOK Tryz.prog 101 (mkCall 3 arc18_i arc18_o arc18_r arc18) := call_spec E_token18_ok Tryz.func101 (by kernel_rfl) (by kernel_rfl) rfl (fun v => (arc18_eq v).trans (arc18_okd v)) (LoopsOK_of arc18_q trivial)
def E_arc18 : Env := E_token18.ext 101 true true (mkCall 3 arc18_i arc18_o arc18_r arc18)
theorem E_arc18_ok : EnvOK Tryz.prog E_arc18 := Env.ext_ok E_token18_ok arc18_spec (fun _ => mkCall_local rfl rfl) (fun _ => mkCall_in rfl rfl)

-- archipelago/archipelagoref18.Great
abbrev great18_h : Hints := { loop := fun n => match n with | 0 => loopBy 0 33 great18_i0 great18_o0 great18_s0 | _ => fun _ _ _ => none }
theorem great18_s0_ok : ∀ v, great18_s0 v = roundOf Tryz.prog E_arc18 great18_h 1 0 33 (loopOf Tryz.f7 0) great18_i0 great18_o0 v := by
  rintro ⟨a0, a1, a2, a3, a4, ⟨⟩⟩
  kernel_rfl
theorem great18_q0 : loopList (loopOf Tryz.f7 0) 1 = [] := by kernel_rfl
theorem great18_l0 : CodeOK Tryz.prog 0 (.loop (loopOf Tryz.f7 0)) (great18_h.loop 0) := loop_ok E_arc18_ok (great18_s0_ok) (LoopsOK_of great18_q0 trivial)
theorem great18_okd : ∀ v, great18_d v = pevCall Tryz.prog E_arc18 great18_h Tryz.f7 great18_i great18_o great18_r v := by
  rintro ⟨a0, a1, ⟨⟩⟩
  kernel_rfl
theorem great18_q : loopList (bodyOf Tryz.f7) 0 = [(0, loopOf Tryz.f7 0)] := by kernel_rfl
theorem great18_spec : SpecOK Tryz.prog 7 (mkCall 2 great18_i great18_o great18_r great18) := call_spec E_arc18_ok Tryz.func7 (by kernel_rfl) (by kernel_rfl) rfl (fun v => (great18_eq v).trans (great18_okd v)) (LoopsOK_of great18_q ⟨great18_l0, trivial⟩)
def E_great18 : Env := E_arc18.ext 7 true true (mkCall 2 great18_i great18_o great18_r great18)
theorem E_great18_ok : EnvOK Tryz.prog E_great18 := Env.ext_ok E_arc18_ok great18_spec (fun _ => mkCall_local rfl rfl) (fun _ => mkCall_in rfl rfl)

-- archipelago/archipelagoref18.stands
abbrev stands18_h : Hints := {  }
theorem stands18_okd : ∀ v, stands18_d v = pevCall Tryz.prog E_great18 stands18_h Tryz.f102 stands18_i stands18_o stands18_r v := by
  rintro ⟨a0, a1, a2, ⟨⟩⟩
  kernel_rfl
theorem stands18_q : loopList (bodyOf Tryz.f102) 0 = [] := by kernel_rfl
theorem stands18_spec : SpecOK Tryz.prog 102 (mkCall 3 stands18_i stands18_o stands18_r stands18) := call_spec E_great18_ok Tryz.func102 (by kernel_rfl) (by kernel_rfl) rfl (fun v => (stands18_eq v).trans (stands18_okd v)) (LoopsOK_of stands18_q trivial)
def E_stands18 : Env := E_great18.ext 102 true true (mkCall 3 stands18_i stands18_o stands18_r stands18)
theorem E_stands18_ok : EnvOK Tryz.prog E_stands18 := Env.ext_ok E_great18_ok stands18_spec (fun _ => mkCall_local rfl rfl) (fun _ => mkCall_in rfl rfl)

-- archipelago/archipelagoref18.tree
abbrev tree18_h : Hints := { loop := fun n => match n with | 0 => loopBy 0 129 tree18_i0 tree18_o0 tree18_s0 | 1 => loopBy 0 129 tree18_i1 tree18_o1 tree18_s1 | 2 => loopBy 0 129 tree18_i2 tree18_o2 tree18_s2 | _ => fun _ _ _ => none, fp := fun n => match n with | 7 => [[], [], [0], [0], [], [], [], [], [0], [], [0], [0], [], [], [], [], [0], [], [0], [0], [], [], []] | _ => [] }
theorem tree18_s2_ok : ∀ v, tree18_s2 v = roundOf Tryz.prog E_stands18 tree18_h 3 0 129 (loopOf Tryz.f69 2) tree18_i2 tree18_o2 v := by
  rintro ⟨a0, a1, a2, a3, a4, a5, a6, a7, a8, a9, a10, a11, a12, a13, a14, a15, a16, a17, a18, a19, a20, a21, a22, a23, a24, a25, a26, a27, ⟨⟩⟩
  kernel_rfl
theorem tree18_q2 : loopList (loopOf Tryz.f69 2) 3 = [] := by kernel_rfl
theorem tree18_l2 : CodeOK Tryz.prog 0 (.loop (loopOf Tryz.f69 2)) (tree18_h.loop 2) := loop_ok E_stands18_ok (tree18_s2_ok) (LoopsOK_of tree18_q2 trivial)
theorem tree18_s1_ok : ∀ v, tree18_s1 v = roundOf Tryz.prog E_stands18 tree18_h 2 0 129 (loopOf Tryz.f69 1) tree18_i1 tree18_o1 v := by
  rintro ⟨a0, a1, a2, a3, ⟨⟩⟩
  kernel_rfl
theorem tree18_q1 : loopList (loopOf Tryz.f69 1) 2 = [(2, loopOf Tryz.f69 2)] := by kernel_rfl
theorem tree18_l1 : CodeOK Tryz.prog 0 (.loop (loopOf Tryz.f69 1)) (tree18_h.loop 1) := loop_ok E_stands18_ok (tree18_s1_ok) (LoopsOK_of tree18_q1 ⟨tree18_l2, trivial⟩)
theorem tree18_s0_ok : ∀ v, tree18_s0 v = roundOf Tryz.prog E_stands18 tree18_h 1 0 129 (loopOf Tryz.f69 0) tree18_i0 tree18_o0 v := by
  rintro ⟨a0, a1, ⟨⟩⟩
  kernel_rfl
theorem tree18_q0 : loopList (loopOf Tryz.f69 0) 1 = [(1, loopOf Tryz.f69 1)] := by kernel_rfl
theorem tree18_l0 : CodeOK Tryz.prog 0 (.loop (loopOf Tryz.f69 0)) (tree18_h.loop 0) := loop_ok E_stands18_ok (tree18_s0_ok) (LoopsOK_of tree18_q0 ⟨tree18_l1, trivial⟩)
theorem tree18_okd : ∀ v, tree18_d v = pevCall Tryz.prog E_stands18 tree18_h Tryz.f69 tree18_i tree18_o tree18_r v := by
  rintro ⟨a0, a1, ⟨⟩⟩
  kernel_rfl
theorem tree18_q : loopList (bodyOf Tryz.f69) 0 = [(0, loopOf Tryz.f69 0)] := by kernel_rfl
theorem tree18_spec : SpecOK Tryz.prog 69 (mkCall 2 tree18_i tree18_o tree18_r tree18) := call_spec E_stands18_ok Tryz.func69 (by kernel_rfl) (by kernel_rfl) rfl (fun v => (tree18_eq v).trans (tree18_okd v)) (LoopsOK_of tree18_q ⟨tree18_l0, trivial⟩)
def E_tree18 : Env := E_stands18.ext 69 true true (mkCall 2 tree18_i tree18_o tree18_r tree18)
theorem E_tree18_ok : EnvOK Tryz.prog E_tree18 := Env.ext_ok E_stands18_ok tree18_spec (fun _ => mkCall_local rfl rfl) (fun _ => mkCall_in rfl rfl)

-- archipelago/archipelagoref13.Place
abbrev place13_h : Hints := { loop := fun n => match n with | 0 => loopBy 0 19 place13_i0 place13_o0 place13_s0 | _ => fun _ _ _ => none }
theorem place13_s0_ok : ∀ v, place13_s0 v = roundOf Tryz.prog E_tree18 place13_h 1 0 19 (loopOf Tryz.f31 0) place13_i0 place13_o0 v := by
  rintro ⟨a0, a1, a2, ⟨⟩⟩
  kernel_rfl
theorem place13_q0 : loopList (loopOf Tryz.f31 0) 1 = [] := by kernel_rfl
theorem place13_l0 : CodeOK Tryz.prog 0 (.loop (loopOf Tryz.f31 0)) (place13_h.loop 0) := loop_ok E_tree18_ok (place13_s0_ok) (LoopsOK_of place13_q0 trivial)
theorem place13_okd : ∀ v, place13_d v = pevCall Tryz.prog E_tree18 place13_h Tryz.f31 place13_i place13_o place13_r v := by
  rintro ⟨a0, a1, ⟨⟩⟩
  kernel_rfl
theorem place13_q : loopList (bodyOf Tryz.f31) 0 = [(0, loopOf Tryz.f31 0)] := by kernel_rfl
theorem place13_spec : SpecOK Tryz.prog 31 (mkCall 2 place13_i place13_o place13_r place13) := call_spec E_tree18_ok Tryz.func31 (by kernel_rfl) (by kernel_rfl) rfl (fun v => (place13_eq v).trans (place13_okd v)) (LoopsOK_of place13_q ⟨place13_l0, trivial⟩)
def E_place13 : Env := E_tree18.ext 31 true true (mkCall 2 place13_i place13_o place13_r place13)
theorem E_place13_ok : EnvOK Tryz.prog E_place13 := Env.ext_ok E_tree18_ok place13_spec (fun _ => mkCall_local rfl rfl) (fun _ => mkCall_in rfl rfl)

-- archipelago/archipelagoref13.Right
abbrev right13_h : Hints := { loop := fun n => match n with | 0 => loopBy 0 36 right13_i0 right13_o0 right13_s0 | _ => fun _ _ _ => none, fp := fun n => match n with | 6 => [[], [], [], [], [], [], [], [], [], [], [], [], [], [], [], [], [], [], [], [], [], [], []] | _ => [] }
theorem right13_s0_ok : ∀ v, right13_s0 v = roundOf Tryz.prog E_place13 right13_h 1 0 36 (loopOf Tryz.f68 0) right13_i0 right13_o0 v := by
  rintro ⟨a0, a1, ⟨⟩⟩
  kernel_rfl
theorem right13_q0 : loopList (loopOf Tryz.f68 0) 1 = [] := by kernel_rfl
theorem right13_l0 : CodeOK Tryz.prog 0 (.loop (loopOf Tryz.f68 0)) (right13_h.loop 0) := loop_ok E_place13_ok (right13_s0_ok) (LoopsOK_of right13_q0 trivial)
theorem right13_okd : ∀ v, right13_d v = pevCall Tryz.prog E_place13 right13_h Tryz.f68 right13_i right13_o right13_r v := by
  rintro ⟨a0, ⟨⟩⟩
  kernel_rfl
theorem right13_q : loopList (bodyOf Tryz.f68) 0 = [(0, loopOf Tryz.f68 0)] := by kernel_rfl
theorem right13_spec : SpecOK Tryz.prog 68 (mkCall 1 right13_i right13_o right13_r right13) := call_spec E_place13_ok Tryz.func68 (by kernel_rfl) (by kernel_rfl) rfl (fun v => (right13_eq v).trans (right13_okd v)) (LoopsOK_of right13_q ⟨right13_l0, trivial⟩)
def E_right13 : Env := E_place13.ext 68 true true (mkCall 1 right13_i right13_o right13_r right13)
theorem E_right13_ok : EnvOK Tryz.prog E_right13 := Env.ext_ok E_place13_ok right13_spec (fun _ => mkCall_local rfl rfl) (fun _ => mkCall_in rfl rfl)

-- archipelago/archipelagoref13.From
abbrev from13_h : Hints := { fp := fun n => match n with | 4 => [[], [], [], [], [17], [], [], [], [19], [], []] | _ => [] }
theorem from13_okd : ∀ v, from13_d v = pevCall Tryz.prog E_right13 from13_h Tryz.f103 from13_i from13_o from13_r v := by
  rintro ⟨a0, a1, ⟨⟩⟩
  kernel_rfl
theorem from13_q : loopList (bodyOf Tryz.f103) 0 = [] := by kernel_rfl
theorem from13_spec : SpecOK Tryz.prog 103 (mkCall 2 from13_i from13_o from13_r from13) := call_spec E_right13_ok Tryz.func103 (by kernel_rfl) (by kernel_rfl) rfl (fun v => (from13_eq v).trans (from13_okd v)) (LoopsOK_of from13_q trivial)
def E_from13 : Env := E_right13.ext 103 true true (mkCall 2 from13_i from13_o from13_r from13)
theorem E_from13_ok : EnvOK Tryz.prog E_from13 := Env.ext_ok E_right13_ok from13_spec (fun _ => mkCall_local rfl rfl) (fun _ => mkCall_in rfl rfl)

-- archipelago/archipelagoref13.Plain
abbrev plain13_h : Hints := { loop := fun n => match n with | 0 => loopBy 0 37 plain13_i0 plain13_o0 plain13_s0 | _ => fun _ _ _ => none }
theorem plain13_s0_ok : ∀ v, plain13_s0 v = roundOf Tryz.prog E_from13 plain13_h 1 0 37 (loopOf Tryz.f71 0) plain13_i0 plain13_o0 v := by
  rintro ⟨a0, a1, a2, ⟨⟩⟩
  kernel_rfl
theorem plain13_q0 : loopList (loopOf Tryz.f71 0) 1 = [] := by kernel_rfl
theorem plain13_l0 : CodeOK Tryz.prog 0 (.loop (loopOf Tryz.f71 0)) (plain13_h.loop 0) := loop_ok E_from13_ok (plain13_s0_ok) (LoopsOK_of plain13_q0 trivial)
theorem plain13_okd : ∀ v, plain13_d v = pevCall Tryz.prog E_from13 plain13_h Tryz.f71 plain13_i plain13_o plain13_r v := by
  rintro ⟨a0, ⟨⟩⟩
  kernel_rfl
theorem plain13_q : loopList (bodyOf Tryz.f71) 0 = [(0, loopOf Tryz.f71 0)] := by kernel_rfl
theorem plain13_spec : SpecOK Tryz.prog 71 (mkCall 1 plain13_i plain13_o plain13_r plain13) := call_spec E_from13_ok Tryz.func71 (by kernel_rfl) (by kernel_rfl) rfl (fun v => (plain13_eq v).trans (plain13_okd v)) (LoopsOK_of plain13_q ⟨plain13_l0, trivial⟩)
def E_plain13 : Env := E_from13.ext 71 true true (mkCall 1 plain13_i plain13_o plain13_r plain13)
theorem E_plain13_ok : EnvOK Tryz.prog E_plain13 := Env.ext_ok E_from13_ok plain13_spec (fun _ => mkCall_local rfl rfl) (fun _ => mkCall_in rfl rfl)

-- archipelago/archipelagoref01.Ints
abbrev ints01_h : Hints := { loop := fun n => match n with | 0 => loopBy 0 26 ints01_i0 ints01_o0 ints01_s0 | _ => fun _ _ _ => none, fp := fun n => match n with | 6 => [[], [], [], [], [], [], [], [], []] | _ => [] }
theorem ints01_s0_ok : ∀ v, ints01_s0 v = roundOf Tryz.prog E_plain13 ints01_h 1 0 26 (loopOf Tryz.f16 0) ints01_i0 ints01_o0 v := by
  rintro ⟨a0, a1, a2, ⟨⟩⟩
  kernel_rfl
theorem ints01_q0 : loopList (loopOf Tryz.f16 0) 1 = [] := by kernel_rfl
theorem ints01_l0 : CodeOK Tryz.prog 0 (.loop (loopOf Tryz.f16 0)) (ints01_h.loop 0) := loop_ok E_plain13_ok (ints01_s0_ok) (LoopsOK_of ints01_q0 trivial)
theorem ints01_okd : ∀ v, ints01_d v = pevCall Tryz.prog E_plain13 ints01_h Tryz.f16 ints01_i ints01_o ints01_r v := by
  rintro ⟨a0, a1, ⟨⟩⟩
  kernel_rfl
theorem ints01_q : loopList (bodyOf Tryz.f16) 0 = [(0, loopOf Tryz.f16 0)] := by kernel_rfl
theorem ints01_spec : SpecOK Tryz.prog 16 (mkCall 2 ints01_i ints01_o ints01_r ints01) := call_spec E_plain13_ok Tryz.func16 (by kernel_rfl) (by kernel_rfl) rfl (fun v => (ints01_eq v).trans (ints01_okd v)) (LoopsOK_of ints01_q ⟨ints01_l0, trivial⟩)
def E_ints01 : Env := E_plain13.ext 16 true true (mkCall 2 ints01_i ints01_o ints01_r ints01)
theorem E_ints01_ok : EnvOK Tryz.prog E_ints01 := Env.ext_ok E_plain13_ok ints01_spec (fun _ => mkCall_local rfl rfl) (fun _ => mkCall_in rfl rfl)

-- archipelago/archipelagoref14.Lists
abbrev lists14_h : Hints := { loop := fun n => match n with | 0 => loopBy 0 27 lists14_i0 lists14_o0 lists14_s0 | _ => fun _ _ _ => none, fp := fun n => match n with | 6 => [[], [], [], [], [], [], [], [], [], []] | _ => [] }
theorem lists14_s0_ok : ∀ v, lists14_s0 v = roundOf Tryz.prog E_ints01 lists14_h 1 0 27 (loopOf Tryz.f70 0) lists14_i0 lists14_o0 v := by
  rintro ⟨a0, a1, a2, ⟨⟩⟩
  kernel_rfl
theorem lists14_q0 : loopList (loopOf Tryz.f70 0) 1 = [] := by kernel_rfl
theorem lists14_l0 : CodeOK Tryz.prog 0 (.loop (loopOf Tryz.f70 0)) (lists14_h.loop 0) := loop_ok E_ints01_ok (lists14_s0_ok) (LoopsOK_of lists14_q0 trivial)
theorem lists14_okd : ∀ v, lists14_d v = pevCall Tryz.prog E_ints01 lists14_h Tryz.f70 lists14_i lists14_o lists14_r v := by
  rintro ⟨a0, a1, ⟨⟩⟩
  kernel_rfl
theorem lists14_q : loopList (bodyOf Tryz.f70) 0 = [(0, loopOf Tryz.f70 0)] := by kernel_rfl
theorem lists14_spec : SpecOK Tryz.prog 70 (mkCall 2 lists14_i lists14_o lists14_r lists14) := call_spec E_ints01_ok Tryz.func70 (by kernel_rfl) (by kernel_rfl) rfl (fun v => (lists14_eq v).trans (lists14_okd v)) (LoopsOK_of lists14_q ⟨lists14_l0, trivial⟩)
def E_lists14 : Env := E_ints01.ext 70 true true (mkCall 2 lists14_i lists14_o lists14_r lists14)
theorem E_lists14_ok : EnvOK Tryz.prog E_lists14 := Env.ext_ok E_ints01_ok lists14_spec (fun _ => mkCall_local rfl rfl) (fun _ => mkCall_in rfl rfl)

end
end Go.Pev
end
section
/- The models are what the program computes. Printed by a program. -/
namespace Go.Pev
open Go.Proofs
set_option maxRecDepth 100000
noncomputable section
-- archipelago/archipelagoref18.Right
abbrev right18_h : Hints := { loop := fun n => match n with | 0 => loopBy 0 106 right18_i0 right18_o0 right18_s0 | 1 => loopBy 0 106 right18_i1 right18_o1 right18_s1 | _ => fun _ _ _ => none, fp := fun n => match n with | 16 => [[], [], [], [], [0], [0], []] | _ => [] }
theorem right18_s1_ok : ∀ v, right18_s1 v = roundOf Tryz.prog E_lists14 right18_h 2 0 106 (loopOf Tryz.f46 1) right18_i1 right18_o1 v := by
  rintro ⟨a0, a1, a2, a3, a4, a5, a6, a7, a8, a9, a10, a11, a12, a13, a14, a15, a16, a17, a18, a19, a20, a21, a22, a23, a24, a25, ⟨⟩⟩
  kernel_rfl
theorem right18_q1 : loopList (loopOf Tryz.f46 1) 2 = [] := by kernel_rfl
theorem right18_l1 : CodeOK Tryz.prog 0 (.loop (loopOf Tryz.f46 1)) (right18_h.loop 1) := loop_ok E_lists14_ok (right18_s1_ok) (LoopsOK_of right18_q1 trivial)
theorem right18_s0_ok : ∀ v, right18_s0 v = roundOf Tryz.prog E_lists14 right18_h 1 0 106 (loopOf Tryz.f46 0) right18_i0 right18_o0 v := by
  rintro ⟨a0, a1, a2, a3, a4, a5, ⟨⟩⟩
  kernel_rfl
theorem right18_q0 : loopList (loopOf Tryz.f46 0) 1 = [(1, loopOf Tryz.f46 1)] := by kernel_rfl
theorem right18_l0 : CodeOK Tryz.prog 0 (.loop (loopOf Tryz.f46 0)) (right18_h.loop 0) := loop_ok E_lists14_ok (right18_s0_ok) (LoopsOK_of right18_q0 ⟨right18_l1, trivial⟩)
theorem right18_okd : ∀ v, right18_d v = pevCall Tryz.prog E_lists14 right18_h Tryz.f46 right18_i right18_o right18_r v := by
  rintro ⟨a0, ⟨⟩⟩
  kernel_rfl
theorem right18_q : loopList (bodyOf Tryz.f46) 0 = [(0, loopOf Tryz.f46 0)] := by kernel_rfl
theorem right18_spec : SpecOK Tryz.prog 46 (mkCall 1 right18_i right18_o right18_r right18) := call_spec E_lists14_ok Tryz.func46 (by kernel_rfl) (by kernel_rfl) rfl (fun v => (right18_eq v).trans (right18_okd v)) (LoopsOK_of right18_q ⟨right18_l0, trivial⟩)
def E_right18 : Env := E_lists14.ext 46 true true (mkCall 1 right18_i right18_o right18_r right18)
theorem E_right18_ok : EnvOK Tryz.prog E_right18 := Env.ext_ok E_lists14_ok right18_spec (fun _ => mkCall_local rfl rfl) (fun _ => mkCall_in rfl rfl)

-- archipelago/archipelagoref18.place
abbrev place18_h : Hints := { loop := fun n => match n with | 0 => loopBy 0 22 place18_i0 place18_o0 place18_s0 | _ => fun _ _ _ => none }
theorem place18_s0_ok : ∀ v, place18_s0 v = roundOf Tryz.prog E_right18 place18_h 1 0 22 (loopOf Tryz.f48 0) place18_i0 place18_o0 v := by
  rintro ⟨a0, a1, a2, a3, ⟨⟩⟩
  kernel_rfl
theorem place18_q0 : loopList (loopOf Tryz.f48 0) 1 = [] := by kernel_rfl
theorem place18_l0 : CodeOK Tryz.prog 0 (.loop (loopOf Tryz.f48 0)) (place18_h.loop 0) := loop_ok E_right18_ok (place18_s0_ok) (LoopsOK_of place18_q0 trivial)
theorem place18_okd : ∀ v, place18_d v = pevCall Tryz.prog E_right18 place18_h Tryz.f48 place18_i place18_o place18_r v := by
  rintro ⟨a0, a1, ⟨⟩⟩
  kernel_rfl
theorem place18_q : loopList (bodyOf Tryz.f48) 0 = [(0, loopOf Tryz.f48 0)] := by kernel_rfl
theorem place18_spec : SpecOK Tryz.prog 48 (mkCall 2 place18_i place18_o place18_r place18) := call_spec E_right18_ok Tryz.func48 (by kernel_rfl) (by kernel_rfl) rfl (fun v => (place18_eq v).trans (place18_okd v)) (LoopsOK_of place18_q ⟨place18_l0, trivial⟩)
def E_place18 : Env := E_right18.ext 48 true true (mkCall 2 place18_i place18_o place18_r place18)
theorem E_place18_ok : EnvOK Tryz.prog E_place18 := Env.ext_ok E_right18_ok place18_spec (fun _ => mkCall_local rfl rfl) (fun _ => mkCall_in rfl rfl)

-- archipelago/archipelagoref18.Of
abbrev of18_h : Hints := {  }
theorem of18_okd : ∀ v, of18_d v = pevCall Tryz.prog E_place18 of18_h Tryz.f26 of18_i of18_o of18_r v := by
  rintro ⟨a0, a1, ⟨⟩⟩
  kernel_rfl
theorem of18_q : loopList (bodyOf Tryz.f26) 0 = [] := by kernel_rfl
theorem of18_spec : SpecOK Tryz.prog 26 (mkCall 2 of18_i of18_o of18_r of18) := call_spec E_place18_ok Tryz.func26 (by kernel_rfl) (by kernel_rfl) rfl (fun v => (of18_eq v).trans (of18_okd v)) (LoopsOK_of of18_q trivial)
def E_of18 : Env := E_place18.ext 26 true true (mkCall 2 of18_i of18_o of18_r of18)
theorem E_of18_ok : EnvOK Tryz.prog E_of18 := Env.ext_ok E_place18_ok of18_spec (fun _ => mkCall_local rfl rfl) (fun _ => mkCall_in rfl rfl)

-- archipelago/tour.sized
abbrev tsized_h : Hints := {  }
theorem tsized_okd : ∀ v, tsized_d v = pevCall Tryz.prog E_of18 tsized_h Tryz.f52 tsized_i tsized_o tsized_r v := by
  rintro ⟨a0, ⟨⟩⟩
  kernel_rfl
theorem tsized_q : loopList (bodyOf Tryz.f52) 0 = [] := by kernel_rfl
theorem tsized_spec : SpecOK Tryz.prog 52 (mkCall 1 tsized_i tsized_o tsized_r tsized) := call_spec E_of18_ok Tryz.func52 (by kernel_rfl) (by kernel_rfl) rfl (fun v => (tsized_eq v).trans (tsized_okd v)) (LoopsOK_of tsized_q trivial)
def E_tsized : Env := E_of18.ext 52 true true (mkCall 1 tsized_i tsized_o tsized_r tsized)
theorem E_tsized_ok : EnvOK Tryz.prog E_tsized := Env.ext_ok E_of18_ok tsized_spec (fun _ => mkCall_local rfl rfl) (fun _ => mkCall_in rfl rfl)

-- archipelago/tour.in
abbrev tin_h : Hints := {  }
theorem tin_okd : ∀ v, tin_d v = pevCall Tryz.prog E_tsized tin_h Tryz.f44 tin_i tin_o tin_r v := by
  rintro ⟨a0, a1, ⟨⟩⟩
  kernel_rfl
theorem tin_q : loopList (bodyOf Tryz.f44) 0 = [] := by kernel_rfl
theorem tin_spec : SpecOK Tryz.prog 44 (mkCall 2 tin_i tin_o tin_r tin) := call_spec E_tsized_ok Tryz.func44 (by kernel_rfl) (by kernel_rfl) rfl (fun v => (tin_eq v).trans (tin_okd v)) (LoopsOK_of tin_q trivial)
def E_tin : Env := E_tsized.ext 44 true true (mkCall 2 tin_i tin_o tin_r tin)
theorem E_tin_ok : EnvOK Tryz.prog E_tin := Env.ext_ok E_tsized_ok tin_spec (fun _ => mkCall_local rfl rfl) (fun _ => mkCall_in rfl rfl)

-- archipelago/tour.Arc
abbrev tarc_h : Hints := {  }
theorem tarc_okd : ∀ v, tarc_d v = pevCall Tryz.prog E_tin tarc_h Tryz.f62 tarc_i tarc_o tarc_r v := by
  rintro ⟨a0, a1, a2, ⟨⟩⟩
  kernel_rfl
theorem tarc_q : loopList (bodyOf Tryz.f62) 0 = [] := by kernel_rfl
theorem tarc_spec : SpecOK Tryz.prog 62 (mkCall 3 tarc_i tarc_o tarc_r tarc) := call_spec E_tin_ok Tryz.func62 (by kernel_rfl) (by kernel_rfl) rfl (fun v => (tarc_eq v).trans (tarc_okd v)) (LoopsOK_of tarc_q trivial)
def E_tarc : Env := E_tin.ext 62 true true (mkCall 3 tarc_i tarc_o tarc_r tarc)
theorem E_tarc_ok : EnvOK Tryz.prog E_tarc := Env.ext_ok E_tin_ok tarc_spec (fun _ => mkCall_local rfl rfl) (fun _ => mkCall_in rfl rfl)

-- archipelago/tour.Token
abbrev ttoken_h : Hints := { fp := fun n => match n with | 5 => [[], [], [], [], [], [], [], [], []] | _ => [] }
theorem ttoken_okd : ∀ v, ttoken_d v = pevCall Tryz.prog E_tarc ttoken_h Tryz.f35 ttoken_i ttoken_o ttoken_r v := by
  rintro ⟨a0, a1, ⟨⟩⟩
  kernel_rfl
theorem ttoken_q : loopList (bodyOf Tryz.f35) 0 = [] := by kernel_rfl
theorem ttoken_spec : SpecOK Tryz.prog 35 (mkCall 2 ttoken_i ttoken_o ttoken_r ttoken) := call_spec E_tarc_ok Tryz.func35 (by kernel_rfl) (by kernel_rfl) rfl (fun v => (ttoken_eq v).trans (ttoken_okd v)) (LoopsOK_of ttoken_q trivial)
def E_ttoken : Env := E_tarc.ext 35 true true (mkCall 2 ttoken_i ttoken_o ttoken_r ttoken)
theorem E_ttoken_ok : EnvOK Tryz.prog E_ttoken := Env.ext_ok E_tarc_ok ttoken_spec (fun _ => mkCall_local rfl rfl) (fun _ => mkCall_in rfl rfl)

-- archipelago/tour.Make
abbrev tmake_h : Hints := { loop := fun n => match n with | 0 => loopBy 0 25 tmake_i0 tmake_o0 tmake_s0 | _ => fun _ _ _ => none }
theorem tmake_s0_ok : ∀ v, tmake_s0 v = roundOf Tryz.prog E_ttoken tmake_h 1 0 25 (loopOf Tryz.f32 0) tmake_i0 tmake_o0 v := by
  rintro ⟨a0, a1, a2, a3, a4, ⟨⟩⟩
  kernel_rfl
theorem tmake_q0 : loopList (loopOf Tryz.f32 0) 1 = [] := by kernel_rfl
theorem tmake_l0 : CodeOK Tryz.prog 0 (.loop (loopOf Tryz.f32 0)) (tmake_h.loop 0) := loop_ok E_ttoken_ok (tmake_s0_ok) (LoopsOK_of tmake_q0 trivial)
theorem tmake_okd : ∀ v, tmake_d v = pevCall Tryz.prog E_ttoken tmake_h Tryz.f32 tmake_i tmake_o tmake_r v := by
  rintro ⟨a0, ⟨⟩⟩
  kernel_rfl
theorem tmake_q : loopList (bodyOf Tryz.f32) 0 = [(0, loopOf Tryz.f32 0)] := by kernel_rfl
theorem tmake_spec : SpecOK Tryz.prog 32 (mkCall 1 tmake_i tmake_o tmake_r tmake) := call_spec E_ttoken_ok Tryz.func32 (by kernel_rfl) (by kernel_rfl) rfl (fun v => (tmake_eq v).trans (tmake_okd v)) (LoopsOK_of tmake_q ⟨tmake_l0, trivial⟩)
def E_tmake : Env := E_ttoken.ext 32 true true (mkCall 1 tmake_i tmake_o tmake_r tmake)
theorem E_tmake_ok : EnvOK Tryz.prog E_tmake := Env.ext_ok E_ttoken_ok tmake_spec (fun _ => mkCall_local rfl rfl) (fun _ => mkCall_in rfl rfl)

-- slices.Index[[]int,int]
abbrev indexI_h : Hints := { loop := fun n => match n with | 0 => loopBy 0 19 indexI_i0 indexI_o0 indexI_s0 | _ => fun _ _ _ => none }
theorem indexI_s0_ok : ∀ v, indexI_s0 v = roundOf Tryz.prog E_tmake indexI_h 1 0 19 (loopOf Tryz.f63 0) indexI_i0 indexI_o0 v := by
  rintro ⟨a0, a1, a2, a3, ⟨⟩⟩
  kernel_rfl
theorem indexI_q0 : loopList (loopOf Tryz.f63 0) 1 = [] := by kernel_rfl
theorem indexI_l0 : CodeOK Tryz.prog 0 (.loop (loopOf Tryz.f63 0)) (indexI_h.loop 0) := loop_ok E_tmake_ok (indexI_s0_ok) (LoopsOK_of indexI_q0 trivial)
theorem indexI_okd : ∀ v, indexI_d v = pevCall Tryz.prog E_tmake indexI_h Tryz.f63 indexI_i indexI_o indexI_r v := by
  rintro ⟨a0, a1, ⟨⟩⟩
  kernel_rfl
theorem indexI_q : loopList (bodyOf Tryz.f63) 0 = [(0, loopOf Tryz.f63 0)] := by kernel_rfl
theorem indexI_spec : SpecOK Tryz.prog 63 (mkCall 2 indexI_i indexI_o indexI_r indexI) := call_spec E_tmake_ok Tryz.func63 (by kernel_rfl) (by kernel_rfl) rfl (fun v => (indexI_eq v).trans (indexI_okd v)) (LoopsOK_of indexI_q ⟨indexI_l0, trivial⟩)
def E_indexI : Env := E_tmake.ext 63 true true (mkCall 2 indexI_i indexI_o indexI_r indexI)
theorem E_indexI_ok : EnvOK Tryz.prog E_indexI := Env.ext_ok E_tmake_ok indexI_spec (fun _ => mkCall_local rfl rfl) (fun _ => mkCall_in rfl rfl)

-- slices.Contains[[]int,int]
abbrev containsI_h : Hints := {  }
theorem containsI_okd : ∀ v, containsI_d v = pevCall Tryz.prog E_indexI containsI_h Tryz.f67 containsI_i containsI_o containsI_r v := by
  rintro ⟨a0, a1, ⟨⟩⟩
  kernel_rfl
theorem containsI_q : loopList (bodyOf Tryz.f67) 0 = [] := by kernel_rfl
theorem containsI_spec : SpecOK Tryz.prog 67 (mkCall 2 containsI_i containsI_o containsI_r containsI) := call_spec E_indexI_ok Tryz.func67 (by kernel_rfl) (by kernel_rfl) rfl (fun v => (containsI_eq v).trans (containsI_okd v)) (LoopsOK_of containsI_q trivial)
def E_containsI : Env := E_indexI.ext 67 true true (mkCall 2 containsI_i containsI_o containsI_r containsI)
theorem E_containsI_ok : EnvOK Tryz.prog E_containsI := Env.ext_ok E_indexI_ok containsI_spec (fun _ => mkCall_local rfl rfl) (fun _ => mkCall_in rfl rfl)

-- slices.Min[[]int,int]
abbrev minI_h : Hints := { loop := fun n => match n with | 0 => loopBy 0 25 minI_i0 minI_o0 minI_s0 | _ => fun _ _ _ => none }
theorem minI_s0_ok : ∀ v, minI_s0 v = roundOf Tryz.prog E_containsI minI_h 1 0 25 (loopOf Tryz.f55 0) minI_i0 minI_o0 v := by
  rintro ⟨a0, a1, a2, ⟨⟩⟩
  kernel_rfl
theorem minI_q0 : loopList (loopOf Tryz.f55 0) 1 = [] := by kernel_rfl
theorem minI_l0 : CodeOK Tryz.prog 0 (.loop (loopOf Tryz.f55 0)) (minI_h.loop 0) := loop_ok E_containsI_ok (minI_s0_ok) (LoopsOK_of minI_q0 trivial)
theorem minI_okd : ∀ v, minI_d v = pevCall Tryz.prog E_containsI minI_h Tryz.f55 minI_i minI_o minI_r v := by
  rintro ⟨a0, ⟨⟩⟩
  kernel_rfl
theorem minI_q : loopList (bodyOf Tryz.f55) 0 = [(0, loopOf Tryz.f55 0)] := by kernel_rfl
theorem minI_spec : SpecOK Tryz.prog 55 (mkCall 1 minI_i minI_o minI_r minI) := call_spec E_containsI_ok Tryz.func55 (by kernel_rfl) (by kernel_rfl) rfl (fun v => (minI_eq v).trans (minI_okd v)) (LoopsOK_of minI_q ⟨minI_l0, trivial⟩)
def E_minI : Env := E_containsI.ext 55 true true (mkCall 1 minI_i minI_o minI_r minI)
theorem E_minI_ok : EnvOK Tryz.prog E_minI := Env.ext_ok E_containsI_ok minI_spec (fun _ => mkCall_local rfl rfl) (fun _ => mkCall_in rfl rfl)

-- slices.Grow[[]int,int]
abbrev growI_h : Hints := {  }
theorem growI_okd : ∀ v, growI_d v = pevCall Tryz.prog E_minI growI_h Tryz.f109 growI_i growI_o growI_r v := by
  rintro ⟨a0, ⟨⟩⟩
  kernel_rfl
theorem growI_q : loopList (bodyOf Tryz.f109) 0 = [] := by kernel_rfl
theorem growI_spec : SpecOK Tryz.prog 109 (mkCall 2 growI_i growI_o growI_r growI) := call_spec E_minI_ok Tryz.func109 (by kernel_rfl) (by kernel_rfl) rfl (fun v => (growI_eq v).trans (growI_okd v)) (LoopsOK_of growI_q trivial)
def E_growI : Env := E_minI.ext 109 false true (mkCall 2 growI_i growI_o growI_r growI)
theorem E_growI_ok : EnvOK Tryz.prog E_growI := Env.ext_ok E_minI_ok growI_spec ((by simp)) (fun _ => mkCall_in rfl rfl)

end
end Go.Pev
end
section
/- The models are what the program computes. Printed by a program. -/
namespace Go.Pev
open Go.Proofs
set_option maxRecDepth 100000
noncomputable section
-- slices.Concat[[]int,int]
abbrev concatI_h : Hints := { loop := fun n => match n with | 0 => loopBy 0 36 concatI_i0 concatI_o0 concatI_s0 | 1 => loopBy 0 36 concatI_i1 concatI_o1 concatI_s1 | _ => fun _ _ _ => none }
theorem concatI_s1_ok : ∀ v, concatI_s1 v = roundOf Tryz.prog E_growI concatI_h 2 0 36 (loopOf Tryz.f83 1) concatI_i1 concatI_o1 v := by
  rintro ⟨a0, a1, a2, a3, ⟨⟩⟩
  kernel_rfl
theorem concatI_q1 : loopList (loopOf Tryz.f83 1) 2 = [] := by kernel_rfl
theorem concatI_l1 : CodeOK Tryz.prog 0 (.loop (loopOf Tryz.f83 1)) (concatI_h.loop 1) := loop_ok E_growI_ok (concatI_s1_ok) (LoopsOK_of concatI_q1 trivial)
theorem concatI_s0_ok : ∀ v, concatI_s0 v = roundOf Tryz.prog E_growI concatI_h 1 0 36 (loopOf Tryz.f83 0) concatI_i0 concatI_o0 v := by
  rintro ⟨a0, a1, a2, a3, a4, ⟨⟩⟩
  kernel_rfl
theorem concatI_q0 : loopList (loopOf Tryz.f83 0) 1 = [] := by kernel_rfl
theorem concatI_l0 : CodeOK Tryz.prog 0 (.loop (loopOf Tryz.f83 0)) (concatI_h.loop 0) := loop_ok E_growI_ok (concatI_s0_ok) (LoopsOK_of concatI_q0 trivial)
theorem concatI_okd : ∀ v, concatI_d v = pevCall Tryz.prog E_growI concatI_h Tryz.f83 concatI_i concatI_o concatI_r v := by
  rintro ⟨a0, ⟨⟩⟩
  kernel_rfl
theorem concatI_q : loopList (bodyOf Tryz.f83) 0 = [(0, loopOf Tryz.f83 0), (1, loopOf Tryz.f83 1)] := by kernel_rfl
theorem concatI_spec : SpecOK Tryz.prog 83 (mkCall 1 concatI_i concatI_o concatI_r concatI) := call_spec E_growI_ok Tryz.func83 (by kernel_rfl) (by kernel_rfl) rfl (fun v => (concatI_eq v).trans (concatI_okd v)) (LoopsOK_of concatI_q ⟨concatI_l0, concatI_l1, trivial⟩)
def E_concatI : Env := E_growI.ext 83 true true (mkCall 1 concatI_i concatI_o concatI_r concatI)
theorem E_concatI_ok : EnvOK Tryz.prog E_concatI := Env.ext_ok E_growI_ok concatI_spec (fun _ => mkCall_local rfl rfl) (fun _ => mkCall_in rfl rfl)

-- archipelago/ring.Right$1: gone through in place
theorem ringOdd_b : Tryz.f84.body.isSome = true := by kernel_rfl
theorem ringOdd_n : (Tryz.f84.name == "runtime.NumGoroutine") = false := by kernel_rfl
theorem ringOdd_z : loops (bodyOf Tryz.f84) = 0 := by kernel_rfl

def E_ringOdd_1 : Env := E_concatI.ext 84 false false (mkInline Tryz.prog E_concatI {} Tryz.f84)
theorem E_ringOdd_1_ok : EnvOK Tryz.prog E_ringOdd_1 := Env.ext_ok E_concatI_ok (inline_spec E_concatI_ok Tryz.func84 ringOdd_b ringOdd_n ringOdd_z) (by simp) (by simp)

-- slices.IndexFunc[[]int,int]
abbrev idxFuncI_odd_h : Hints := { loop := fun n => match n with | 0 => loopBy 0 19 idxFuncI_odd_i0 idxFuncI_odd_o0 idxFuncI_odd_s0 | _ => fun _ _ _ => none }
theorem idxFuncI_odd_s0_ok : ∀ v, idxFuncI_odd_s0 v = roundOf Tryz.prog E_ringOdd_1 idxFuncI_odd_h 1 0 19 (loopOf Tryz.f49 0) idxFuncI_odd_i0 idxFuncI_odd_o0 v := by
  rintro ⟨a0, a1, a2, ⟨⟩⟩
  kernel_rfl
theorem idxFuncI_odd_q0 : loopList (loopOf Tryz.f49 0) 1 = [] := by kernel_rfl
theorem idxFuncI_odd_l0 : CodeOK Tryz.prog 0 (.loop (loopOf Tryz.f49 0)) (idxFuncI_odd_h.loop 0) := loop_ok E_ringOdd_1_ok (idxFuncI_odd_s0_ok) (LoopsOK_of idxFuncI_odd_q0 trivial)
theorem idxFuncI_odd_okd : ∀ v, idxFuncI_odd_d v = pevCall Tryz.prog E_ringOdd_1 idxFuncI_odd_h Tryz.f49 idxFuncI_odd_i idxFuncI_odd_o idxFuncI_odd_r v := by
  rintro ⟨a0, ⟨⟩⟩
  kernel_rfl
theorem idxFuncI_odd_q : loopList (bodyOf Tryz.f49) 0 = [(0, loopOf Tryz.f49 0)] := by kernel_rfl
theorem idxFuncI_odd_spec : SpecOK Tryz.prog 49 (mkCall 2 idxFuncI_odd_i idxFuncI_odd_o idxFuncI_odd_r idxFuncI_odd) := call_spec E_ringOdd_1_ok Tryz.func49 (by kernel_rfl) (by kernel_rfl) rfl (fun v => (idxFuncI_odd_eq v).trans (idxFuncI_odd_okd v)) (LoopsOK_of idxFuncI_odd_q ⟨idxFuncI_odd_l0, trivial⟩)
def E_idxFuncI_odd : Env := E_ringOdd_1.extC 49 1 84 (mkCall 2 idxFuncI_odd_i idxFuncI_odd_o idxFuncI_odd_r idxFuncI_odd)
theorem E_idxFuncI_odd_ok : EnvOK Tryz.prog E_idxFuncI_odd := Env.extC_ok E_ringOdd_1_ok idxFuncI_odd_spec (mkCall_in rfl rfl)

-- slices.ContainsFunc[[]int,int]
abbrev contFuncI_odd_h : Hints := {  }
theorem contFuncI_odd_okd : ∀ v, contFuncI_odd_d v = pevCall Tryz.prog E_idxFuncI_odd contFuncI_odd_h Tryz.f42 contFuncI_odd_i contFuncI_odd_o contFuncI_odd_r v := by
  rintro ⟨a0, ⟨⟩⟩
  kernel_rfl
theorem contFuncI_odd_q : loopList (bodyOf Tryz.f42) 0 = [] := by kernel_rfl
theorem contFuncI_odd_spec : SpecOK Tryz.prog 42 (mkCall 2 contFuncI_odd_i contFuncI_odd_o contFuncI_odd_r contFuncI_odd) := call_spec E_idxFuncI_odd_ok Tryz.func42 (by kernel_rfl) (by kernel_rfl) rfl (fun v => (contFuncI_odd_eq v).trans (contFuncI_odd_okd v)) (LoopsOK_of contFuncI_odd_q trivial)
def E_contFuncI_odd : Env := E_idxFuncI_odd.extC 42 1 84 (mkCall 2 contFuncI_odd_i contFuncI_odd_o contFuncI_odd_r contFuncI_odd)
theorem E_contFuncI_odd_ok : EnvOK Tryz.prog E_contFuncI_odd := Env.extC_ok E_idxFuncI_odd_ok contFuncI_odd_spec (mkCall_in rfl rfl)

-- archipelago/ring.once[int]
abbrev once_h : Hints := { loop := fun n => match n with | 0 => loopBy 0 23 once_i0 once_o0 once_s0 | _ => fun _ _ _ => none }
theorem once_s0_ok : ∀ v, once_s0 v = roundOf Tryz.prog E_contFuncI_odd once_h 1 0 23 (loopOf Tryz.f85 0) once_i0 once_o0 v := by
  rintro ⟨a0, a1, a2, a3, a4, ⟨⟩⟩
  kernel_rfl
theorem once_q0 : loopList (loopOf Tryz.f85 0) 1 = [] := by kernel_rfl
theorem once_l0 : CodeOK Tryz.prog 0 (.loop (loopOf Tryz.f85 0)) (once_h.loop 0) := loop_ok E_contFuncI_odd_ok (once_s0_ok) (LoopsOK_of once_q0 trivial)
theorem once_okd : ∀ v, once_d v = pevCall Tryz.prog E_contFuncI_odd once_h Tryz.f85 once_i once_o once_r v := by
  rintro ⟨a0, ⟨⟩⟩
  kernel_rfl
theorem once_q : loopList (bodyOf Tryz.f85) 0 = [(0, loopOf Tryz.f85 0)] := by kernel_rfl
theorem once_spec : SpecOK Tryz.prog 85 (mkCall 1 once_i once_o once_r once) := call_spec E_contFuncI_odd_ok Tryz.func85 (by kernel_rfl) (by kernel_rfl) rfl (fun v => (once_eq v).trans (once_okd v)) (LoopsOK_of once_q ⟨once_l0, trivial⟩)
def E_once : Env := E_contFuncI_odd.ext 85 true true (mkCall 1 once_i once_o once_r once)
theorem E_once_ok : EnvOK Tryz.prog E_once := Env.ext_ok E_contFuncI_odd_ok once_spec (fun _ => mkCall_local rfl rfl) (fun _ => mkCall_in rfl rfl)

-- archipelago/ring.Right
abbrev rright_h : Hints := {  }
theorem rright_okd : ∀ v, rright_d v = pevCall Tryz.prog E_once rright_h Tryz.f54 rright_i rright_o rright_r v := by
  rintro ⟨a0, ⟨⟩⟩
  kernel_rfl
theorem rright_q : loopList (bodyOf Tryz.f54) 0 = [] := by kernel_rfl
theorem rright_spec : SpecOK Tryz.prog 54 (mkCall 1 rright_i rright_o rright_r rright) := call_spec E_once_ok Tryz.func54 (by kernel_rfl) (by kernel_rfl) rfl (fun v => (rright_eq v).trans (rright_okd v)) (LoopsOK_of rright_q trivial)
def E_rright : Env := E_once.ext 54 true true (mkCall 1 rright_i rright_o rright_r rright)
theorem E_rright_ok : EnvOK Tryz.prog E_rright := Env.ext_ok E_once_ok rright_spec (fun _ => mkCall_local rfl rfl) (fun _ => mkCall_in rfl rfl)

-- archipelago/ring.turned
abbrev turned_h : Hints := { fp := fun n => match n with | 1 => [[], [], [], [], [], [], [], [0], []] | _ => [] }
theorem turned_okd : ∀ v, turned_d v = pevCall Tryz.prog E_rright turned_h Tryz.f96 turned_i turned_o turned_r v := by
  rintro ⟨a0, a1, ⟨⟩⟩
  kernel_rfl
theorem turned_q : loopList (bodyOf Tryz.f96) 0 = [] := by kernel_rfl
theorem turned_spec : SpecOK Tryz.prog 96 (mkCall 2 turned_i turned_o turned_r turned) := call_spec E_rright_ok Tryz.func96 (by kernel_rfl) (by kernel_rfl) rfl (fun v => (turned_eq v).trans (turned_okd v)) (LoopsOK_of turned_q trivial)
def E_turned : Env := E_rright.ext 96 true true (mkCall 2 turned_i turned_o turned_r turned)
theorem E_turned_ok : EnvOK Tryz.prog E_turned := Env.ext_ok E_rright_ok turned_spec (fun _ => mkCall_local rfl rfl) (fun _ => mkCall_in rfl rfl)

-- archipelago/ring.places
abbrev places_h : Hints := { loop := fun n => match n with | 0 => loopBy 0 29 places_i0 places_o0 places_s0 | _ => fun _ _ _ => none }
theorem places_s0_ok : ∀ v, places_s0 v = roundOf Tryz.prog E_turned places_h 1 0 29 (loopOf Tryz.f95 0) places_i0 places_o0 v := by
  rintro ⟨a0, a1, a2, a3, a4, ⟨⟩⟩
  kernel_rfl
theorem places_q0 : loopList (loopOf Tryz.f95 0) 1 = [] := by kernel_rfl
theorem places_l0 : CodeOK Tryz.prog 0 (.loop (loopOf Tryz.f95 0)) (places_h.loop 0) := loop_ok E_turned_ok (places_s0_ok) (LoopsOK_of places_q0 trivial)
theorem places_okd : ∀ v, places_d v = pevCall Tryz.prog E_turned places_h Tryz.f95 places_i places_o places_r v := by
  rintro ⟨a0, a1, ⟨⟩⟩
  kernel_rfl
theorem places_q : loopList (bodyOf Tryz.f95) 0 = [(0, loopOf Tryz.f95 0)] := by kernel_rfl
theorem places_spec : SpecOK Tryz.prog 95 (mkCall 2 places_i places_o places_r places) := call_spec E_turned_ok Tryz.func95 (by kernel_rfl) (by kernel_rfl) rfl (fun v => (places_eq v).trans (places_okd v)) (LoopsOK_of places_q ⟨places_l0, trivial⟩)
def E_places : Env := E_turned.ext 95 true true (mkCall 2 places_i places_o places_r places)
theorem E_places_ok : EnvOK Tryz.prog E_places := Env.ext_ok E_turned_ok places_spec (fun _ => mkCall_local rfl rfl) (fun _ => mkCall_in rfl rfl)

-- archipelago/ring.From
abbrev rfrom_h : Hints := {  }
theorem rfrom_okd : ∀ v, rfrom_d v = pevCall Tryz.prog E_places rfrom_h Tryz.f61 rfrom_i rfrom_o rfrom_r v := by
  rintro ⟨a0, a1, ⟨⟩⟩
  kernel_rfl
theorem rfrom_q : loopList (bodyOf Tryz.f61) 0 = [] := by kernel_rfl
theorem rfrom_spec : SpecOK Tryz.prog 61 (mkCall 2 rfrom_i rfrom_o rfrom_r rfrom) := call_spec E_places_ok Tryz.func61 (by kernel_rfl) (by kernel_rfl) rfl (fun v => (rfrom_eq v).trans (rfrom_okd v)) (LoopsOK_of rfrom_q trivial)
def E_rfrom : Env := E_places.ext 61 true true (mkCall 2 rfrom_i rfrom_o rfrom_r rfrom)
theorem E_rfrom_ok : EnvOK Tryz.prog E_rfrom := Env.ext_ok E_places_ok rfrom_spec (fun _ => mkCall_local rfl rfl) (fun _ => mkCall_in rfl rfl)

-- archipelago/ring.Plain
abbrev rplain_h : Hints := {  }
theorem rplain_okd : ∀ v, rplain_d v = pevCall Tryz.prog E_rfrom rplain_h Tryz.f97 rplain_i rplain_o rplain_r v := by
  rintro ⟨a0, ⟨⟩⟩
  kernel_rfl
theorem rplain_q : loopList (bodyOf Tryz.f97) 0 = [] := by kernel_rfl
theorem rplain_spec : SpecOK Tryz.prog 97 (mkCall 1 rplain_i rplain_o rplain_r rplain) := call_spec E_rfrom_ok Tryz.func97 (by kernel_rfl) (by kernel_rfl) rfl (fun v => (rplain_eq v).trans (rplain_okd v)) (LoopsOK_of rplain_q trivial)
def E_rplain : Env := E_rfrom.ext 97 true true (mkCall 1 rplain_i rplain_o rplain_r rplain)
theorem E_rplain_ok : EnvOK Tryz.prog E_rplain := Env.ext_ok E_rfrom_ok rplain_spec (fun _ => mkCall_local rfl rfl) (fun _ => mkCall_in rfl rfl)

-- archipelago/tour.place$1: gone through in place
theorem tplace1_b : Tryz.f66.body.isSome = true := by kernel_rfl
theorem tplace1_n : (Tryz.f66.name == "runtime.NumGoroutine") = false := by kernel_rfl
theorem tplace1_z : loops (bodyOf Tryz.f66) = 0 := by kernel_rfl

def E_tplace1_2 : Env := E_rplain.ext 66 false false (mkInline Tryz.prog E_rplain {} Tryz.f66)
theorem E_tplace1_2_ok : EnvOK Tryz.prog E_tplace1_2 := Env.ext_ok E_rplain_ok (inline_spec E_rplain_ok Tryz.func66 tplace1_b tplace1_n tplace1_z) (by simp) (by simp)

-- slices.IndexFunc[[][]int,[]int]
abbrev idxFuncL_place_h : Hints := { loop := fun n => match n with | 0 => loopBy 1 19 idxFuncL_place_i0 idxFuncL_place_o0 idxFuncL_place_s0 | _ => fun _ _ _ => none }
theorem idxFuncL_place_s0_ok : ∀ v, idxFuncL_place_s0 v = roundOf Tryz.prog E_tplace1_2 idxFuncL_place_h 1 1 19 (loopOf Tryz.f65 0) idxFuncL_place_i0 idxFuncL_place_o0 v := by
  rintro ⟨a0, a1, a2, a3, ⟨⟩⟩
  kernel_rfl
theorem idxFuncL_place_q0 : loopList (loopOf Tryz.f65 0) 1 = [] := by kernel_rfl
theorem idxFuncL_place_l0 : CodeOK Tryz.prog 1 (.loop (loopOf Tryz.f65 0)) (idxFuncL_place_h.loop 0) := loop_ok E_tplace1_2_ok (idxFuncL_place_s0_ok) (LoopsOK_of idxFuncL_place_q0 trivial)
theorem idxFuncL_place_okd : ∀ v, idxFuncL_place_d v = pevCall Tryz.prog E_tplace1_2 idxFuncL_place_h Tryz.f65 idxFuncL_place_i idxFuncL_place_o idxFuncL_place_r v := by
  rintro ⟨a0, a1, ⟨⟩⟩
  kernel_rfl
theorem idxFuncL_place_q : loopList (bodyOf Tryz.f65) 0 = [(0, loopOf Tryz.f65 0)] := by kernel_rfl
theorem idxFuncL_place_spec : SpecOK Tryz.prog 65 (mkCall 2 idxFuncL_place_i idxFuncL_place_o idxFuncL_place_r idxFuncL_place) := call_spec E_tplace1_2_ok Tryz.func65 (by kernel_rfl) (by kernel_rfl) rfl (fun v => (idxFuncL_place_eq v).trans (idxFuncL_place_okd v)) (LoopsOK_of idxFuncL_place_q ⟨idxFuncL_place_l0, trivial⟩)
def E_idxFuncL_place : Env := E_tplace1_2.extC 65 1 66 (mkCall 2 idxFuncL_place_i idxFuncL_place_o idxFuncL_place_r idxFuncL_place)
theorem E_idxFuncL_place_ok : EnvOK Tryz.prog E_idxFuncL_place := Env.extC_ok E_tplace1_2_ok idxFuncL_place_spec (mkCall_in rfl rfl)

end
end Go.Pev
end
