/- A part of the proofs of this seat: S27z G27P1 G27P2 G27P3 G27P4 G27P5 G27P6 G27P7 G27P8 G27P9 G27P10 G27P. -/
import Derived.Test.YtfciahckbbjmkaaP2b3eb8bb33
import Derived.Test.YtfciahckbbjmkaaProg
set_option linter.unusedVariables false
set_option linter.unusedSimpArgs false
set_option linter.unusedSectionVars false
section
namespace Go.Pev.Pl
set_option linter.unusedSimpArgs false
set_option maxRecDepth 100000
theorem sum_map_add (f g : Nat → Nat) : ∀ xs : List Nat, (xs.map fun w => f w + g w).sum = (xs.map f).sum + (xs.map g).sum := by
  intro xs
  induction xs with
  | nil => rfl
  | cons x xs ih => simp only [List.map_cons, List.sum_cons, ih]; omega
theorem sum_one (w0 : Nat) : ∀ N, ((List.range N).map fun w => if w0 = w then 1 else 0).sum = if w0 < N then 1 else 0 := by
  intro N
  induction N with
  | zero => rfl
  | succ N ih =>
    rw [List.range_succ, List.map_append, List.sum_append, ih]
    simp only [List.map_cons, List.map_nil, List.sum_cons, List.sum_nil]
    by_cases h : w0 = N
    · rw [if_neg (by omega), if_pos h, if_pos (by omega)]
      rfl
    · rw [if_neg h]
      by_cases h' : w0 < N
      · rw [if_pos h', if_pos (by omega)]
        rfl
      · rw [if_neg h', if_neg (by omega)]
        rfl
theorem sum_parts (N : Nat) (out : List Int) : ∀ ks : List Nat, (∀ k ∈ ks, InV N (out.getD k 0)) → ((List.range N).map fun (w : Nat) => (ks.filter fun k => decide (out.getD k 0 = (w : Int))).length).sum = ks.length := by
  intro ks
  induction ks with
  | nil =>
    intro _
    simp only [List.filter_nil, List.length_nil]
    have : ∀ xs : List Nat, (xs.map fun _ => 0).sum = 0 := by
      intro xs
      induction xs with
      | nil => rfl
      | cons x xs ih => simp only [List.map_cons, List.sum_cons, ih]
    exact this _
  | cons k ks ih =>
    intro h
    have hk := h k (by simp)
    obtain ⟨w0, hw⟩ := Int.eq_ofNat_of_zero_le hk.1
    have hlt := hk.2
    have e : ∀ w : Nat, ((k :: ks).filter fun k => decide (out.getD k 0 = (w : Int))).length = (if w0 = w then 1 else 0) + (ks.filter fun k => decide (out.getD k 0 = (w : Int))).length := by
      intro w
      rw [List.filter_cons]
      by_cases hc : w0 = w
      · have : out.getD k 0 = (w : Int) := by omega
        simp only [this, decide_true, if_true, if_pos hc, List.length_cons]; omega
      · have : ¬ out.getD k 0 = (w : Int) := by omega
        simp only [this, decide_false, Bool.false_eq_true, if_false, if_neg hc]; omega
    simp only [e]
    rw [sum_map_add, sum_one, if_pos (by omega), ih (fun k hk => h k (by simp [hk])), List.length_cons]
    omega
theorem u8_mod' {x : Int} (h : 0 ≤ x ∧ x ≤ 255) {N : Nat} (hN : 1 ≤ N) (hN2 : N ≤ 64) : ∃ q : Nat, rem? (IntKind.wrap .i64 x) (N : Int) = some (q : Int) ∧ q < N := by
  rw [wrap_in (by omega), rem_eq, remR, if_neg (by omega), Int.tmod_eq_emod_of_nonneg h.1]
  have h1 := Int.emod_nonneg x (show (N : Int) ≠ 0 by omega)
  have h2 := Int.emod_lt_of_pos x (show (0 : Int) < N by omega)
  exact ⟨(x % (N : Int)).toNat, by congr 1; omega, by omega⟩
theorem cntC_le (out : List Int) (N : Nat) (c : Int) : cntC out N c ≤ N := by
  unfold cntC
  have := List.length_filter_le (fun k => decide (out.getD k 0 = c)) (List.range N)
  rw [List.length_range] at this
  exact this
def tot (out : List Int) (N M : Nat) : Nat := ((List.range M).map fun (w : Nat) => if out.getD w 0 = (w : Int) then cntC out N (w : Int) else 0).sum
theorem tot_all {N : Nat} (h1 : 1 ≤ N) (h2 : N ≤ 64) {l : List Edge} {out : List Int} (hc : ClOK (N : Int) l out) : tot out N N = N := by
  have hin : ∀ k : Nat, k < N → In (N : Int) (k : Int) := fun k hk => ⟨by omega, by omega, by omega, by omega⟩
  have hg : ∀ k : Nat, out.getD k 0 = cl out (k : Int) := fun k => by unfold cl; rw [Int.toNat_natCast]
  have hp := sum_parts N out (List.range N) (fun k hk => by
    have := hc.isin _ (hin k (by simpa using hk))
    rw [hg]; exact ⟨this.2.2.1, this.2.2.2⟩)
  rw [List.length_range] at hp
  refine Eq.trans ?_ hp
  unfold tot
  congr 1
  refine List.map_congr_left fun w hw => ?_
  have hw : w < N := by simpa using hw
  by_cases h : out.getD w 0 = (w : Int)
  · rw [if_pos h]; rfl
  · rw [if_neg h]
    symm
    rw [List.length_eq_zero_iff, List.filter_eq_nil_iff]
    intro k hk he
    have hk : k < N := by simpa using hk
    rw [decide_eq_true_eq] at he
    apply h
    have hcc := (hc.same (k : Int) (cl out (k : Int)) (hin k hk) (hc.isin _ (hin k hk))).2 (hc.con _ (hin k hk))
    rw [hg] at he ⊢
    rw [he] at hcc
    exact hcc.symm
theorem sayClasses_loop {N : Nat} (h1 : 1 ≤ N) (hN : N ≤ 64) (ts : List Tie) {l : List Edge} {out : List Int} (ho : out.length = N) (hc : ClOK (N : Int) l out) (hs : sayof (((N : Int), (ts, ())), ()) = some (out, true, ())) (y : Int) :
    iterL sayClasses_s0 many ((N : Int), ts, y, (0 : Int), (0 : Int), (0 : Int), ()) = some (.inr (.inl ((N : Int), ts, y, (cnt out N : Int), (N : Int), ()))) := by
  have hg : ∀ k : Nat, out.getD k 0 = cl out (k : Int) := fun k => by unfold cl; rw [Int.toNat_natCast]
  have e := walkL (step := sayClasses_s0) (fun i (a : Nat × Nat) => ((N : Int), ts, y, (a.1 : Int), (a.2 : Int), (i : Int), ())) (List.range N) (fun w a => .inl (if out.getD w 0 = (w : Int) then (a.1 + 1, a.2 + cntC out N (w : Int)) else a)) (fun a => .inr (.inl ((N : Int), ts, y, (a.1 : Int), (a.2 : Int), ()))) (fun i a => a.1 ≤ i ∧ a.2 ≤ 64 * i) (by simp; omega)
    (fun i x a hi hx ha => by
      refine ⟨fun m' h' => ?_, fun r h' => (by cases h')⟩
      cases h'
      have := range_get' hx
      subst this
      rw [List.length_range] at hi
      have iv : InV N (x : Int) := ⟨by omega, by omega⟩
      have hle := cntC_le out N (cl out (x : Int))
      have hle2 := cntC_le out N (x : Int)
      have hpos : 1 ≤ cntC out N (cl out (x : Int)) := by
        unfold cntC
        refine List.length_pos_of_mem (a := x) ?_
        rw [List.mem_filter]
        exact ⟨by simpa using hi, by rw [decide_eq_true_eq]; exact hg x⟩
      constructor
      · have a2 : ans N out ((2 : Int), ((x : Int), ((0 : Int), ()))) = (cl out (x : Int), 0, ()) := by simp [ans, iv]
        have a3 : ans N out ((3 : Int), ((x : Int), ((0 : Int), ()))) = ((cntC out N (cl out (x : Int)) : Int), 0, ()) := by simp [ans, iv]
        rw [sayClasses_s0, ilt_nat, decide_eq_true hi]
        simp only [sanswer_right hN ho hs, a2, a3, ieq_self', Bool.not_true]
        rw [ilt_eq, decide_eq_false (by omega), ieq_dec, wrap_add1 (by omega), wrap_add1 (by omega), wrap_add (by omega)]
        rw [hg]
        by_cases h : cl out (x : Int) = (x : Int)
        · rw [decide_eq_true h, if_pos h, h]
        · rw [decide_eq_false h, if_neg h]
      · obtain ⟨b1, b2⟩ := ha
        split
        · exact ⟨by show a.1 + 1 ≤ x + 1; omega, by show a.2 + cntC out N (x : Int) ≤ 64 * (x + 1); omega⟩
        · exact ⟨by omega, by omega⟩)
    (fun a _ => by rw [sayClasses_s0, List.length_range, ilt_nat, decide_eq_false (by omega)]) (0, 0) ⟨Nat.le_refl _, Nat.le_refl _⟩
  have e' : iterL sayClasses_s0 many ((N : Int), ts, y, (0 : Int), (0 : Int), (0 : Int), ()) = _ := e
  rw [e', walk_fold (fun w a => if out.getD w 0 = (w : Int) then (a.1 + 1, a.2 + cntC out N (w : Int)) else a)]
  have key : ∀ M, (List.range M).foldl (fun (a : Nat × Nat) (w : Nat) => if out.getD w 0 = (w : Int) then (a.1 + 1, a.2 + cntC out N (w : Int)) else a) (0, 0) = (((List.range M).filter fun k => decide (out.getD k 0 = (k : Int))).length, tot out N M) := by
    intro M
    induction M with
    | zero => rfl
    | succ M ih =>
      unfold tot at *
      rw [List.range_succ, List.foldl_append, ih, List.filter_append, List.map_append, List.sum_append, List.length_append]
      simp only [List.foldl_cons, List.foldl_nil, List.map_cons, List.map_nil, List.sum_cons, List.sum_nil, List.filter_cons, List.filter_nil]
      by_cases h : out.getD M 0 = (M : Int)
      · simp only [h, if_true, decide_true]; rfl
      · simp only [h, if_false, decide_false, Bool.false_eq_true]; rfl
  rw [key]
  simp only [tot_all h1 hN hc]
  rfl
theorem sayClasses_true (g : Int × List Tie × Unit) (two : List Int) (h0 : wfD (.prod (.int .i64) (.prod (.slice (.prod (.int .i64) (.prod (.int .i64) (.prod (.int .i64) (.prod .bool .unit))))) .unit)) g) (h1 : wfD (.arr 2 (.int .u8)) two) :
    sayClasses (g, two, ()) = some (true, ()) := by
  obtain ⟨n, ts, ⟨⟩⟩ := g
  rw [sayClasses_eq, sayClasses_d]
  simp only [alive27_true, Bool.not_true, great27_eq, great27_d, dlen_l]
  by_cases g1 : 40 < ts.length
  · rw [ilt_eq, decide_eq_true (by omega)]
  rw [ilt_eq, decide_eq_false (by omega)]
  simp only []
  by_cases g12 : ilt (12 : Int) n = true
  · simp only [g12]
  have g12 : ilt (12 : Int) n = false := by simpa using g12
  simp only [g12]
  rcases graph_cases n ts (by omega) with ⟨r1, _⟩ | ⟨N, out, rfl, q1, q2, q3, ho, hc, r1, r2, _, _⟩
  · simp only [r1, Bool.not_false]
  simp only [r1, Bool.not_true]
  have hb : ∀ k, 0 ≤ dget two k (0 : Int) ∧ dget two k (0 : Int) ≤ 255 := by
    intro k
    unfold dget
    by_cases h : k < two.length
    · have := h1.2 two[k] (List.getElem_mem h)
      have h' : 0 ≤ two[k] ∧ two[k] ≤ 255 := this
      simpa [h] using h'
    · simp [List.getElem?_eq_none (Nat.le_of_not_lt h)]
  obtain ⟨u, eu, hu⟩ := u8_mod' (hb 0) q1 q2
  obtain ⟨v, ev, hv⟩ := u8_mod' (hb 1) q1 q2
  have iu : InV N (u : Int) := ⟨by omega, by omega⟩
  have iv : InV N (v : Int) := ⟨by omega, by omega⟩
  have a1 : ans N out ((1 : Int), ((u : Int), ((v : Int), ()))) = (if cl out (u : Int) = cl out (v : Int) then 1 else 0, 0, ()) := by simp [ans, iu, iv]
  have a2 : ans N out ((2 : Int), ((u : Int), ((0 : Int), ()))) = (cl out (u : Int), 0, ()) := by simp [ans, iu]
  have a3 : ans N out ((2 : Int), ((v : Int), ((0 : Int), ()))) = (cl out (v : Int), 0, ()) := by simp [ans, iv]
  have a4 : ans N out ((4 : Int), ((-5 : Int), ((99 : Int), ()))) = ((cnt out N : Int), 0, ()) := by simp [ans]
  have hle : cl out (u : Int) ≤ (u : Int) := hc.least _ _ ⟨by omega, by omega, by omega, by omega⟩ ⟨by omega, by omega, by omega, by omega⟩ (.refl _)
  simp only [eu, ev, sanswer_right q2 ho r2, a1, a2, a3, a4, ieq_self', Bool.not_true, sayClasses_loop q1 q2 ts ho hc r2]
  rw [ieq_dec, ieq_dec, ieq_dec, ilt_eq, decide_eq_false (show ¬ (u : Int) < cl out (u : Int) by omega)]
  by_cases h : cl out (u : Int) = cl out (v : Int)
  · rw [if_pos h, decide_eq_true h]
    rfl
  · rw [if_neg h, decide_eq_false h]
    rfl
end Go.Pev.Pl
end
section
namespace Go.Pev
open Go.Proofs
set_option maxRecDepth 100000
noncomputable section
-- archipelago/archipelagoref01.Ints
abbrev ints01_h : Hints := { loop := fun n => match n with | 0 => loopBy 0 26 ints01_i0 ints01_o0 ints01_s0 | _ => fun _ _ _ => none, fp := fun n => match n with | 6 => [[], [], [], [], [], [], [], [], []] | _ => [] }
theorem ints01_s0_ok : ∀ v, ints01_s0 v = roundOf Try.prog Env.none ints01_h 1 0 26 (loopOf Try.f12 0) ints01_i0 ints01_o0 v := by
  rintro ⟨a0, a1, a2, ⟨⟩⟩
  kernel_rfl
theorem ints01_q0 : loopList (loopOf Try.f12 0) 1 = [] := by kernel_rfl
theorem ints01_l0 : CodeOK Try.prog 0 (.loop (loopOf Try.f12 0)) (ints01_h.loop 0) := loop_ok Env.none_ok (ints01_s0_ok) (LoopsOK_of ints01_q0 trivial)
theorem ints01_okd : ∀ v, ints01_d v = pevCall Try.prog Env.none ints01_h Try.f12 ints01_i ints01_o ints01_r v := by
  rintro ⟨a0, a1, ⟨⟩⟩
  kernel_rfl
theorem ints01_q : loopList (bodyOf Try.f12) 0 = [(0, loopOf Try.f12 0)] := by kernel_rfl
theorem ints01_spec : SpecOK Try.prog 12 (mkCall 2 ints01_i ints01_o ints01_r ints01) := call_spec Env.none_ok Try.func12 (by kernel_rfl) (by kernel_rfl) rfl (fun v => (ints01_eq v).trans (ints01_okd v)) (LoopsOK_of ints01_q ⟨ints01_l0, trivial⟩)
def E_ints01 : Env := Env.none.ext 12 true true (mkCall 2 ints01_i ints01_o ints01_r ints01)
theorem E_ints01_ok : EnvOK Try.prog E_ints01 := Env.ext_ok Env.none_ok ints01_spec (fun _ => mkCall_local rfl rfl) (fun _ => mkCall_in rfl rfl)
-- archipelago/archipelagolaw27.great
abbrev great27_h : Hints := {  }
theorem great27_okd : ∀ v, great27_d v = pevCall Try.prog E_ints01 great27_h Try.f7 great27_i great27_o great27_r v := by
  rintro ⟨a0, ⟨⟩⟩
  kernel_rfl
theorem great27_q : loopList (bodyOf Try.f7) 0 = [] := by kernel_rfl
theorem great27_spec : SpecOK Try.prog 7 (mkCall 1 great27_i great27_o great27_r great27) := call_spec E_ints01_ok Try.func7 (by kernel_rfl) (by kernel_rfl) rfl (fun v => (great27_eq v).trans (great27_okd v)) (LoopsOK_of great27_q trivial)
def E_great27 : Env := E_ints01.ext 7 true true (mkCall 1 great27_i great27_o great27_r great27)
theorem E_great27_ok : EnvOK Try.prog E_great27 := Env.ext_ok E_ints01_ok great27_spec (fun _ => mkCall_local rfl rfl) (fun _ => mkCall_in rfl rfl)
-- archipelago/tour.sized
abbrev tsized_h : Hints := {  }
theorem tsized_okd : ∀ v, tsized_d v = pevCall Try.prog E_great27 tsized_h Try.f64 tsized_i tsized_o tsized_r v := by
  rintro ⟨a0, ⟨⟩⟩
  kernel_rfl
theorem tsized_q : loopList (bodyOf Try.f64) 0 = [] := by kernel_rfl
theorem tsized_spec : SpecOK Try.prog 64 (mkCall 1 tsized_i tsized_o tsized_r tsized) := call_spec E_great27_ok Try.func64 (by kernel_rfl) (by kernel_rfl) rfl (fun v => (tsized_eq v).trans (tsized_okd v)) (LoopsOK_of tsized_q trivial)
def E_tsized : Env := E_great27.ext 64 true true (mkCall 1 tsized_i tsized_o tsized_r tsized)
theorem E_tsized_ok : EnvOK Try.prog E_tsized := Env.ext_ok E_great27_ok tsized_spec (fun _ => mkCall_local rfl rfl) (fun _ => mkCall_in rfl rfl)
-- archipelago/tour.in
abbrev tin_h : Hints := {  }
theorem tin_okd : ∀ v, tin_d v = pevCall Try.prog E_tsized tin_h Try.f76 tin_i tin_o tin_r v := by
  rintro ⟨a0, a1, ⟨⟩⟩
  kernel_rfl
theorem tin_q : loopList (bodyOf Try.f76) 0 = [] := by kernel_rfl
theorem tin_spec : SpecOK Try.prog 76 (mkCall 2 tin_i tin_o tin_r tin) := call_spec E_tsized_ok Try.func76 (by kernel_rfl) (by kernel_rfl) rfl (fun v => (tin_eq v).trans (tin_okd v)) (LoopsOK_of tin_q trivial)
def E_tin : Env := E_tsized.ext 76 true true (mkCall 2 tin_i tin_o tin_r tin)
theorem E_tin_ok : EnvOK Try.prog E_tin := Env.ext_ok E_tsized_ok tin_spec (fun _ => mkCall_local rfl rfl) (fun _ => mkCall_in rfl rfl)
-- archipelago/tour.Arc
abbrev tarc_h : Hints := {  }
theorem tarc_okd : ∀ v, tarc_d v = pevCall Try.prog E_tin tarc_h Try.f72 tarc_i tarc_o tarc_r v := by
  rintro ⟨a0, a1, a2, ⟨⟩⟩
  kernel_rfl
theorem tarc_q : loopList (bodyOf Try.f72) 0 = [] := by kernel_rfl
theorem tarc_spec : SpecOK Try.prog 72 (mkCall 3 tarc_i tarc_o tarc_r tarc) := call_spec E_tin_ok Try.func72 (by kernel_rfl) (by kernel_rfl) rfl (fun v => (tarc_eq v).trans (tarc_okd v)) (LoopsOK_of tarc_q trivial)
def E_tarc : Env := E_tin.ext 72 true true (mkCall 3 tarc_i tarc_o tarc_r tarc)
theorem E_tarc_ok : EnvOK Try.prog E_tarc := Env.ext_ok E_tin_ok tarc_spec (fun _ => mkCall_local rfl rfl) (fun _ => mkCall_in rfl rfl)
-- archipelago/tour.Token
abbrev ttoken_h : Hints := { fp := fun n => match n with | 5 => [[], [], [], [], [], [], [], [], []] | _ => [] }
theorem ttoken_okd : ∀ v, ttoken_d v = pevCall Try.prog E_tarc ttoken_h Try.f92 ttoken_i ttoken_o ttoken_r v := by
  rintro ⟨a0, a1, ⟨⟩⟩
  kernel_rfl
theorem ttoken_q : loopList (bodyOf Try.f92) 0 = [] := by kernel_rfl
theorem ttoken_spec : SpecOK Try.prog 92 (mkCall 2 ttoken_i ttoken_o ttoken_r ttoken) := call_spec E_tarc_ok Try.func92 (by kernel_rfl) (by kernel_rfl) rfl (fun v => (ttoken_eq v).trans (ttoken_okd v)) (LoopsOK_of ttoken_q trivial)
def E_ttoken : Env := E_tarc.ext 92 true true (mkCall 2 ttoken_i ttoken_o ttoken_r ttoken)
theorem E_ttoken_ok : EnvOK Try.prog E_ttoken := Env.ext_ok E_tarc_ok ttoken_spec (fun _ => mkCall_local rfl rfl) (fun _ => mkCall_in rfl rfl)
-- archipelago/tour.Make
abbrev tmake_h : Hints := { loop := fun n => match n with | 0 => loopBy 0 25 tmake_i0 tmake_o0 tmake_s0 | _ => fun _ _ _ => none }
theorem tmake_s0_ok : ∀ v, tmake_s0 v = roundOf Try.prog E_ttoken tmake_h 1 0 25 (loopOf Try.f57 0) tmake_i0 tmake_o0 v := by
  rintro ⟨a0, a1, a2, a3, a4, ⟨⟩⟩
  kernel_rfl
theorem tmake_q0 : loopList (loopOf Try.f57 0) 1 = [] := by kernel_rfl
theorem tmake_l0 : CodeOK Try.prog 0 (.loop (loopOf Try.f57 0)) (tmake_h.loop 0) := loop_ok E_ttoken_ok (tmake_s0_ok) (LoopsOK_of tmake_q0 trivial)
theorem tmake_okd : ∀ v, tmake_d v = pevCall Try.prog E_ttoken tmake_h Try.f57 tmake_i tmake_o tmake_r v := by
  rintro ⟨a0, ⟨⟩⟩
  kernel_rfl
theorem tmake_q : loopList (bodyOf Try.f57) 0 = [(0, loopOf Try.f57 0)] := by kernel_rfl
theorem tmake_spec : SpecOK Try.prog 57 (mkCall 1 tmake_i tmake_o tmake_r tmake) := call_spec E_ttoken_ok Try.func57 (by kernel_rfl) (by kernel_rfl) rfl (fun v => (tmake_eq v).trans (tmake_okd v)) (LoopsOK_of tmake_q ⟨tmake_l0, trivial⟩)
def E_tmake : Env := E_ttoken.ext 57 true true (mkCall 1 tmake_i tmake_o tmake_r tmake)
theorem E_tmake_ok : EnvOK Try.prog E_tmake := Env.ext_ok E_ttoken_ok tmake_spec (fun _ => mkCall_local rfl rfl) (fun _ => mkCall_in rfl rfl)
-- slices.Index[[]int,int]
abbrev indexI_h : Hints := { loop := fun n => match n with | 0 => loopBy 0 19 indexI_i0 indexI_o0 indexI_s0 | _ => fun _ _ _ => none }
theorem indexI_s0_ok : ∀ v, indexI_s0 v = roundOf Try.prog E_tmake indexI_h 1 0 19 (loopOf Try.f88 0) indexI_i0 indexI_o0 v := by
  rintro ⟨a0, a1, a2, a3, ⟨⟩⟩
  kernel_rfl
theorem indexI_q0 : loopList (loopOf Try.f88 0) 1 = [] := by kernel_rfl
theorem indexI_l0 : CodeOK Try.prog 0 (.loop (loopOf Try.f88 0)) (indexI_h.loop 0) := loop_ok E_tmake_ok (indexI_s0_ok) (LoopsOK_of indexI_q0 trivial)
theorem indexI_okd : ∀ v, indexI_d v = pevCall Try.prog E_tmake indexI_h Try.f88 indexI_i indexI_o indexI_r v := by
  rintro ⟨a0, a1, ⟨⟩⟩
  kernel_rfl
theorem indexI_q : loopList (bodyOf Try.f88) 0 = [(0, loopOf Try.f88 0)] := by kernel_rfl
theorem indexI_spec : SpecOK Try.prog 88 (mkCall 2 indexI_i indexI_o indexI_r indexI) := call_spec E_tmake_ok Try.func88 (by kernel_rfl) (by kernel_rfl) rfl (fun v => (indexI_eq v).trans (indexI_okd v)) (LoopsOK_of indexI_q ⟨indexI_l0, trivial⟩)
def E_indexI : Env := E_tmake.ext 88 true true (mkCall 2 indexI_i indexI_o indexI_r indexI)
theorem E_indexI_ok : EnvOK Try.prog E_indexI := Env.ext_ok E_tmake_ok indexI_spec (fun _ => mkCall_local rfl rfl) (fun _ => mkCall_in rfl rfl)
-- slices.Contains[[]int,int]
abbrev containsI_h : Hints := {  }
theorem containsI_okd : ∀ v, containsI_d v = pevCall Try.prog E_indexI containsI_h Try.f79 containsI_i containsI_o containsI_r v := by
  rintro ⟨a0, a1, ⟨⟩⟩
  kernel_rfl
theorem containsI_q : loopList (bodyOf Try.f79) 0 = [] := by kernel_rfl
theorem containsI_spec : SpecOK Try.prog 79 (mkCall 2 containsI_i containsI_o containsI_r containsI) := call_spec E_indexI_ok Try.func79 (by kernel_rfl) (by kernel_rfl) rfl (fun v => (containsI_eq v).trans (containsI_okd v)) (LoopsOK_of containsI_q trivial)
def E_containsI : Env := E_indexI.ext 79 true true (mkCall 2 containsI_i containsI_o containsI_r containsI)
theorem E_containsI_ok : EnvOK Try.prog E_containsI := Env.ext_ok E_indexI_ok containsI_spec (fun _ => mkCall_local rfl rfl) (fun _ => mkCall_in rfl rfl)
-- slices.Min[[]int,int]
abbrev minI_h : Hints := { loop := fun n => match n with | 0 => loopBy 0 25 minI_i0 minI_o0 minI_s0 | _ => fun _ _ _ => none }
theorem minI_s0_ok : ∀ v, minI_s0 v = roundOf Try.prog E_containsI minI_h 1 0 25 (loopOf Try.f86 0) minI_i0 minI_o0 v := by
  rintro ⟨a0, a1, a2, ⟨⟩⟩
  kernel_rfl
theorem minI_q0 : loopList (loopOf Try.f86 0) 1 = [] := by kernel_rfl
theorem minI_l0 : CodeOK Try.prog 0 (.loop (loopOf Try.f86 0)) (minI_h.loop 0) := loop_ok E_containsI_ok (minI_s0_ok) (LoopsOK_of minI_q0 trivial)
theorem minI_okd : ∀ v, minI_d v = pevCall Try.prog E_containsI minI_h Try.f86 minI_i minI_o minI_r v := by
  rintro ⟨a0, ⟨⟩⟩
  kernel_rfl
theorem minI_q : loopList (bodyOf Try.f86) 0 = [(0, loopOf Try.f86 0)] := by kernel_rfl
theorem minI_spec : SpecOK Try.prog 86 (mkCall 1 minI_i minI_o minI_r minI) := call_spec E_containsI_ok Try.func86 (by kernel_rfl) (by kernel_rfl) rfl (fun v => (minI_eq v).trans (minI_okd v)) (LoopsOK_of minI_q ⟨minI_l0, trivial⟩)
def E_minI : Env := E_containsI.ext 86 true true (mkCall 1 minI_i minI_o minI_r minI)
theorem E_minI_ok : EnvOK Try.prog E_minI := Env.ext_ok E_containsI_ok minI_spec (fun _ => mkCall_local rfl rfl) (fun _ => mkCall_in rfl rfl)
-- slices.Grow[[]int,int]
abbrev growI_h : Hints := {  }
theorem growI_okd : ∀ v, growI_d v = pevCall Try.prog E_minI growI_h Try.f42 growI_i growI_o growI_r v := by
  rintro ⟨a0, ⟨⟩⟩
  kernel_rfl
theorem growI_q : loopList (bodyOf Try.f42) 0 = [] := by kernel_rfl
theorem growI_spec : SpecOK Try.prog 42 (mkCall 2 growI_i growI_o growI_r growI) := call_spec E_minI_ok Try.func42 (by kernel_rfl) (by kernel_rfl) rfl (fun v => (growI_eq v).trans (growI_okd v)) (LoopsOK_of growI_q trivial)
def E_growI : Env := E_minI.ext 42 false true (mkCall 2 growI_i growI_o growI_r growI)
theorem E_growI_ok : EnvOK Try.prog E_growI := Env.ext_ok E_minI_ok growI_spec ((by simp)) (fun _ => mkCall_in rfl rfl)
-- slices.Concat[[]int,int]
abbrev concatI_h : Hints := { loop := fun n => match n with | 0 => loopBy 0 36 concatI_i0 concatI_o0 concatI_s0 | 1 => loopBy 0 36 concatI_i1 concatI_o1 concatI_s1 | _ => fun _ _ _ => none }
theorem concatI_s1_ok : ∀ v, concatI_s1 v = roundOf Try.prog E_growI concatI_h 2 0 36 (loopOf Try.f25 1) concatI_i1 concatI_o1 v := by
  rintro ⟨a0, a1, a2, a3, ⟨⟩⟩
  kernel_rfl
theorem concatI_q1 : loopList (loopOf Try.f25 1) 2 = [] := by kernel_rfl
theorem concatI_l1 : CodeOK Try.prog 0 (.loop (loopOf Try.f25 1)) (concatI_h.loop 1) := loop_ok E_growI_ok (concatI_s1_ok) (LoopsOK_of concatI_q1 trivial)
theorem concatI_s0_ok : ∀ v, concatI_s0 v = roundOf Try.prog E_growI concatI_h 1 0 36 (loopOf Try.f25 0) concatI_i0 concatI_o0 v := by
  rintro ⟨a0, a1, a2, a3, a4, ⟨⟩⟩
  kernel_rfl
theorem concatI_q0 : loopList (loopOf Try.f25 0) 1 = [] := by kernel_rfl
theorem concatI_l0 : CodeOK Try.prog 0 (.loop (loopOf Try.f25 0)) (concatI_h.loop 0) := loop_ok E_growI_ok (concatI_s0_ok) (LoopsOK_of concatI_q0 trivial)
theorem concatI_okd : ∀ v, concatI_d v = pevCall Try.prog E_growI concatI_h Try.f25 concatI_i concatI_o concatI_r v := by
  rintro ⟨a0, ⟨⟩⟩
  kernel_rfl
theorem concatI_q : loopList (bodyOf Try.f25) 0 = [(0, loopOf Try.f25 0), (1, loopOf Try.f25 1)] := by kernel_rfl
theorem concatI_spec : SpecOK Try.prog 25 (mkCall 1 concatI_i concatI_o concatI_r concatI) := call_spec E_growI_ok Try.func25 (by kernel_rfl) (by kernel_rfl) rfl (fun v => (concatI_eq v).trans (concatI_okd v)) (LoopsOK_of concatI_q ⟨concatI_l0, concatI_l1, trivial⟩)
def E_concatI : Env := E_growI.ext 25 true true (mkCall 1 concatI_i concatI_o concatI_r concatI)
theorem E_concatI_ok : EnvOK Try.prog E_concatI := Env.ext_ok E_growI_ok concatI_spec (fun _ => mkCall_local rfl rfl) (fun _ => mkCall_in rfl rfl)
end
end Go.Pev
end
section
namespace Go.Pev
open Go.Proofs
set_option maxRecDepth 100000
noncomputable section
-- archipelago/ring.Right$1: gone through in place
theorem ringOdd_b : Try.f90.body.isSome = true := by kernel_rfl
theorem ringOdd_n : (Try.f90.name == "runtime.NumGoroutine") = false := by kernel_rfl
theorem ringOdd_z : loops (bodyOf Try.f90) = 0 := by kernel_rfl
def E_ringOdd_1 : Env := E_concatI.ext 90 false false (mkInline Try.prog E_concatI {} Try.f90)
theorem E_ringOdd_1_ok : EnvOK Try.prog E_ringOdd_1 := Env.ext_ok E_concatI_ok (inline_spec E_concatI_ok Try.func90 ringOdd_b ringOdd_n ringOdd_z) (by simp) (by simp)
-- slices.IndexFunc[[]int,int]
abbrev idxFuncI_odd_h : Hints := { loop := fun n => match n with | 0 => loopBy 0 19 idxFuncI_odd_i0 idxFuncI_odd_o0 idxFuncI_odd_s0 | _ => fun _ _ _ => none }
theorem idxFuncI_odd_s0_ok : ∀ v, idxFuncI_odd_s0 v = roundOf Try.prog E_ringOdd_1 idxFuncI_odd_h 1 0 19 (loopOf Try.f43 0) idxFuncI_odd_i0 idxFuncI_odd_o0 v := by
  rintro ⟨a0, a1, a2, ⟨⟩⟩
  kernel_rfl
theorem idxFuncI_odd_q0 : loopList (loopOf Try.f43 0) 1 = [] := by kernel_rfl
theorem idxFuncI_odd_l0 : CodeOK Try.prog 0 (.loop (loopOf Try.f43 0)) (idxFuncI_odd_h.loop 0) := loop_ok E_ringOdd_1_ok (idxFuncI_odd_s0_ok) (LoopsOK_of idxFuncI_odd_q0 trivial)
theorem idxFuncI_odd_okd : ∀ v, idxFuncI_odd_d v = pevCall Try.prog E_ringOdd_1 idxFuncI_odd_h Try.f43 idxFuncI_odd_i idxFuncI_odd_o idxFuncI_odd_r v := by
  rintro ⟨a0, ⟨⟩⟩
  kernel_rfl
theorem idxFuncI_odd_q : loopList (bodyOf Try.f43) 0 = [(0, loopOf Try.f43 0)] := by kernel_rfl
theorem idxFuncI_odd_spec : SpecOK Try.prog 43 (mkCall 2 idxFuncI_odd_i idxFuncI_odd_o idxFuncI_odd_r idxFuncI_odd) := call_spec E_ringOdd_1_ok Try.func43 (by kernel_rfl) (by kernel_rfl) rfl (fun v => (idxFuncI_odd_eq v).trans (idxFuncI_odd_okd v)) (LoopsOK_of idxFuncI_odd_q ⟨idxFuncI_odd_l0, trivial⟩)
def E_idxFuncI_odd : Env := E_ringOdd_1.extC 43 1 90 (mkCall 2 idxFuncI_odd_i idxFuncI_odd_o idxFuncI_odd_r idxFuncI_odd)
theorem E_idxFuncI_odd_ok : EnvOK Try.prog E_idxFuncI_odd := Env.extC_ok E_ringOdd_1_ok idxFuncI_odd_spec (mkCall_in rfl rfl)
-- slices.ContainsFunc[[]int,int]
abbrev contFuncI_odd_h : Hints := {  }
theorem contFuncI_odd_okd : ∀ v, contFuncI_odd_d v = pevCall Try.prog E_idxFuncI_odd contFuncI_odd_h Try.f26 contFuncI_odd_i contFuncI_odd_o contFuncI_odd_r v := by
  rintro ⟨a0, ⟨⟩⟩
  kernel_rfl
theorem contFuncI_odd_q : loopList (bodyOf Try.f26) 0 = [] := by kernel_rfl
theorem contFuncI_odd_spec : SpecOK Try.prog 26 (mkCall 2 contFuncI_odd_i contFuncI_odd_o contFuncI_odd_r contFuncI_odd) := call_spec E_idxFuncI_odd_ok Try.func26 (by kernel_rfl) (by kernel_rfl) rfl (fun v => (contFuncI_odd_eq v).trans (contFuncI_odd_okd v)) (LoopsOK_of contFuncI_odd_q trivial)
def E_contFuncI_odd : Env := E_idxFuncI_odd.extC 26 1 90 (mkCall 2 contFuncI_odd_i contFuncI_odd_o contFuncI_odd_r contFuncI_odd)
theorem E_contFuncI_odd_ok : EnvOK Try.prog E_contFuncI_odd := Env.extC_ok E_idxFuncI_odd_ok contFuncI_odd_spec (mkCall_in rfl rfl)
-- archipelago/ring.once[int]
abbrev once_h : Hints := { loop := fun n => match n with | 0 => loopBy 0 23 once_i0 once_o0 once_s0 | _ => fun _ _ _ => none }
theorem once_s0_ok : ∀ v, once_s0 v = roundOf Try.prog E_contFuncI_odd once_h 1 0 23 (loopOf Try.f91 0) once_i0 once_o0 v := by
  rintro ⟨a0, a1, a2, a3, a4, ⟨⟩⟩
  kernel_rfl
theorem once_q0 : loopList (loopOf Try.f91 0) 1 = [] := by kernel_rfl
theorem once_l0 : CodeOK Try.prog 0 (.loop (loopOf Try.f91 0)) (once_h.loop 0) := loop_ok E_contFuncI_odd_ok (once_s0_ok) (LoopsOK_of once_q0 trivial)
theorem once_okd : ∀ v, once_d v = pevCall Try.prog E_contFuncI_odd once_h Try.f91 once_i once_o once_r v := by
  rintro ⟨a0, ⟨⟩⟩
  kernel_rfl
theorem once_q : loopList (bodyOf Try.f91) 0 = [(0, loopOf Try.f91 0)] := by kernel_rfl
theorem once_spec : SpecOK Try.prog 91 (mkCall 1 once_i once_o once_r once) := call_spec E_contFuncI_odd_ok Try.func91 (by kernel_rfl) (by kernel_rfl) rfl (fun v => (once_eq v).trans (once_okd v)) (LoopsOK_of once_q ⟨once_l0, trivial⟩)
def E_once : Env := E_contFuncI_odd.ext 91 true true (mkCall 1 once_i once_o once_r once)
theorem E_once_ok : EnvOK Try.prog E_once := Env.ext_ok E_contFuncI_odd_ok once_spec (fun _ => mkCall_local rfl rfl) (fun _ => mkCall_in rfl rfl)
-- archipelago/ring.Right
abbrev rright_h : Hints := {  }
theorem rright_okd : ∀ v, rright_d v = pevCall Try.prog E_once rright_h Try.f85 rright_i rright_o rright_r v := by
  rintro ⟨a0, ⟨⟩⟩
  kernel_rfl
theorem rright_q : loopList (bodyOf Try.f85) 0 = [] := by kernel_rfl
theorem rright_spec : SpecOK Try.prog 85 (mkCall 1 rright_i rright_o rright_r rright) := call_spec E_once_ok Try.func85 (by kernel_rfl) (by kernel_rfl) rfl (fun v => (rright_eq v).trans (rright_okd v)) (LoopsOK_of rright_q trivial)
def E_rright : Env := E_once.ext 85 true true (mkCall 1 rright_i rright_o rright_r rright)
theorem E_rright_ok : EnvOK Try.prog E_rright := Env.ext_ok E_once_ok rright_spec (fun _ => mkCall_local rfl rfl) (fun _ => mkCall_in rfl rfl)
-- archipelago/ring.turned
abbrev turned_h : Hints := { fp := fun n => match n with | 1 => [[], [], [], [], [], [], [], [0], []] | _ => [] }
theorem turned_okd : ∀ v, turned_d v = pevCall Try.prog E_rright turned_h Try.f81 turned_i turned_o turned_r v := by
  rintro ⟨a0, a1, ⟨⟩⟩
  kernel_rfl
theorem turned_q : loopList (bodyOf Try.f81) 0 = [] := by kernel_rfl
theorem turned_spec : SpecOK Try.prog 81 (mkCall 2 turned_i turned_o turned_r turned) := call_spec E_rright_ok Try.func81 (by kernel_rfl) (by kernel_rfl) rfl (fun v => (turned_eq v).trans (turned_okd v)) (LoopsOK_of turned_q trivial)
def E_turned : Env := E_rright.ext 81 true true (mkCall 2 turned_i turned_o turned_r turned)
theorem E_turned_ok : EnvOK Try.prog E_turned := Env.ext_ok E_rright_ok turned_spec (fun _ => mkCall_local rfl rfl) (fun _ => mkCall_in rfl rfl)
-- archipelago/ring.places
abbrev places_h : Hints := { loop := fun n => match n with | 0 => loopBy 0 29 places_i0 places_o0 places_s0 | _ => fun _ _ _ => none }
theorem places_s0_ok : ∀ v, places_s0 v = roundOf Try.prog E_turned places_h 1 0 29 (loopOf Try.f80 0) places_i0 places_o0 v := by
  rintro ⟨a0, a1, a2, a3, a4, ⟨⟩⟩
  kernel_rfl
theorem places_q0 : loopList (loopOf Try.f80 0) 1 = [] := by kernel_rfl
theorem places_l0 : CodeOK Try.prog 0 (.loop (loopOf Try.f80 0)) (places_h.loop 0) := loop_ok E_turned_ok (places_s0_ok) (LoopsOK_of places_q0 trivial)
theorem places_okd : ∀ v, places_d v = pevCall Try.prog E_turned places_h Try.f80 places_i places_o places_r v := by
  rintro ⟨a0, a1, ⟨⟩⟩
  kernel_rfl
theorem places_q : loopList (bodyOf Try.f80) 0 = [(0, loopOf Try.f80 0)] := by kernel_rfl
theorem places_spec : SpecOK Try.prog 80 (mkCall 2 places_i places_o places_r places) := call_spec E_turned_ok Try.func80 (by kernel_rfl) (by kernel_rfl) rfl (fun v => (places_eq v).trans (places_okd v)) (LoopsOK_of places_q ⟨places_l0, trivial⟩)
def E_places : Env := E_turned.ext 80 true true (mkCall 2 places_i places_o places_r places)
theorem E_places_ok : EnvOK Try.prog E_places := Env.ext_ok E_turned_ok places_spec (fun _ => mkCall_local rfl rfl) (fun _ => mkCall_in rfl rfl)
-- archipelago/ring.From
abbrev rfrom_h : Hints := {  }
theorem rfrom_okd : ∀ v, rfrom_d v = pevCall Try.prog E_places rfrom_h Try.f71 rfrom_i rfrom_o rfrom_r v := by
  rintro ⟨a0, a1, ⟨⟩⟩
  kernel_rfl
theorem rfrom_q : loopList (bodyOf Try.f71) 0 = [] := by kernel_rfl
theorem rfrom_spec : SpecOK Try.prog 71 (mkCall 2 rfrom_i rfrom_o rfrom_r rfrom) := call_spec E_places_ok Try.func71 (by kernel_rfl) (by kernel_rfl) rfl (fun v => (rfrom_eq v).trans (rfrom_okd v)) (LoopsOK_of rfrom_q trivial)
def E_rfrom : Env := E_places.ext 71 true true (mkCall 2 rfrom_i rfrom_o rfrom_r rfrom)
theorem E_rfrom_ok : EnvOK Try.prog E_rfrom := Env.ext_ok E_places_ok rfrom_spec (fun _ => mkCall_local rfl rfl) (fun _ => mkCall_in rfl rfl)
-- archipelago/ring.Plain
abbrev rplain_h : Hints := {  }
theorem rplain_okd : ∀ v, rplain_d v = pevCall Try.prog E_rfrom rplain_h Try.f82 rplain_i rplain_o rplain_r v := by
  rintro ⟨a0, ⟨⟩⟩
  kernel_rfl
theorem rplain_q : loopList (bodyOf Try.f82) 0 = [] := by kernel_rfl
theorem rplain_spec : SpecOK Try.prog 82 (mkCall 1 rplain_i rplain_o rplain_r rplain) := call_spec E_rfrom_ok Try.func82 (by kernel_rfl) (by kernel_rfl) rfl (fun v => (rplain_eq v).trans (rplain_okd v)) (LoopsOK_of rplain_q trivial)
def E_rplain : Env := E_rfrom.ext 82 true true (mkCall 1 rplain_i rplain_o rplain_r rplain)
theorem E_rplain_ok : EnvOK Try.prog E_rplain := Env.ext_ok E_rfrom_ok rplain_spec (fun _ => mkCall_local rfl rfl) (fun _ => mkCall_in rfl rfl)
-- archipelago/tour.place$1: gone through in place
theorem tplace1_b : Try.f78.body.isSome = true := by kernel_rfl
theorem tplace1_n : (Try.f78.name == "runtime.NumGoroutine") = false := by kernel_rfl
theorem tplace1_z : loops (bodyOf Try.f78) = 0 := by kernel_rfl
def E_tplace1_2 : Env := E_rplain.ext 78 false false (mkInline Try.prog E_rplain {} Try.f78)
theorem E_tplace1_2_ok : EnvOK Try.prog E_tplace1_2 := Env.ext_ok E_rplain_ok (inline_spec E_rplain_ok Try.func78 tplace1_b tplace1_n tplace1_z) (by simp) (by simp)
-- slices.IndexFunc[[][]int,[]int]
abbrev idxFuncL_place_h : Hints := { loop := fun n => match n with | 0 => loopBy 1 19 idxFuncL_place_i0 idxFuncL_place_o0 idxFuncL_place_s0 | _ => fun _ _ _ => none }
theorem idxFuncL_place_s0_ok : ∀ v, idxFuncL_place_s0 v = roundOf Try.prog E_tplace1_2 idxFuncL_place_h 1 1 19 (loopOf Try.f77 0) idxFuncL_place_i0 idxFuncL_place_o0 v := by
  rintro ⟨a0, a1, a2, a3, ⟨⟩⟩
  kernel_rfl
theorem idxFuncL_place_q0 : loopList (loopOf Try.f77 0) 1 = [] := by kernel_rfl
theorem idxFuncL_place_l0 : CodeOK Try.prog 1 (.loop (loopOf Try.f77 0)) (idxFuncL_place_h.loop 0) := loop_ok E_tplace1_2_ok (idxFuncL_place_s0_ok) (LoopsOK_of idxFuncL_place_q0 trivial)
theorem idxFuncL_place_okd : ∀ v, idxFuncL_place_d v = pevCall Try.prog E_tplace1_2 idxFuncL_place_h Try.f77 idxFuncL_place_i idxFuncL_place_o idxFuncL_place_r v := by
  rintro ⟨a0, a1, ⟨⟩⟩
  kernel_rfl
theorem idxFuncL_place_q : loopList (bodyOf Try.f77) 0 = [(0, loopOf Try.f77 0)] := by kernel_rfl
theorem idxFuncL_place_spec : SpecOK Try.prog 77 (mkCall 2 idxFuncL_place_i idxFuncL_place_o idxFuncL_place_r idxFuncL_place) := call_spec E_tplace1_2_ok Try.func77 (by kernel_rfl) (by kernel_rfl) rfl (fun v => (idxFuncL_place_eq v).trans (idxFuncL_place_okd v)) (LoopsOK_of idxFuncL_place_q ⟨idxFuncL_place_l0, trivial⟩)
def E_idxFuncL_place : Env := E_tplace1_2.extC 77 1 78 (mkCall 2 idxFuncL_place_i idxFuncL_place_o idxFuncL_place_r idxFuncL_place)
theorem E_idxFuncL_place_ok : EnvOK Try.prog E_idxFuncL_place := Env.extC_ok E_tplace1_2_ok idxFuncL_place_spec (mkCall_in rfl rfl)
-- archipelago/tour.place
abbrev tplace_h : Hints := {  }
theorem tplace_okd : ∀ v, tplace_d v = pevCall Try.prog E_idxFuncL_place tplace_h Try.f70 tplace_i tplace_o tplace_r v := by
  rintro ⟨a0, a1, ⟨⟩⟩
  kernel_rfl
theorem tplace_q : loopList (bodyOf Try.f70) 0 = [] := by kernel_rfl
theorem tplace_spec : SpecOK Try.prog 70 (mkCall 2 tplace_i tplace_o tplace_r tplace) := call_spec E_idxFuncL_place_ok Try.func70 (by kernel_rfl) (by kernel_rfl) rfl (fun v => (tplace_eq v).trans (tplace_okd v)) (LoopsOK_of tplace_q trivial)
def E_tplace : Env := E_idxFuncL_place.ext 70 true true (mkCall 2 tplace_i tplace_o tplace_r tplace)
theorem E_tplace_ok : EnvOK Try.prog E_tplace := Env.ext_ok E_idxFuncL_place_ok tplace_spec (fun _ => mkCall_local rfl rfl) (fun _ => mkCall_in rfl rfl)
end
end Go.Pev
end
section
namespace Go.Pev
open Go.Proofs
set_option maxRecDepth 100000
noncomputable section
-- (*archipelago/tour.walk).along: gone through in place
theorem along_b : Try.f93.body.isSome = true := by kernel_rfl
theorem along_n : (Try.f93.name == "runtime.NumGoroutine") = false := by kernel_rfl
theorem along_z : loops (bodyOf Try.f93) = 0 := by kernel_rfl
def E_along_3 : Env := E_tplace.ext 93 false false (mkInline Try.prog E_tplace {} Try.f93)
theorem E_along_3_ok : EnvOK Try.prog E_along_3 := Env.ext_ok E_tplace_ok (inline_spec E_tplace_ok Try.func93 along_b along_n along_z) (by simp) (by simp)
-- archipelago/tour.goes
abbrev goes_h : Hints := { loop := fun n => match n with | 0 => loopBy 0 107 goes_i0 goes_o0 goes_s0 | _ => fun _ _ _ => none, fp := fun n => match n with | 8 => [[], [], [], [], [], [], [], [], [1000003], [], [], [], [], [], [], [], [], [0], [0], [0], [], [0], [0], [0], [2, 26], [], [2, 26], [2, 26], [], [], [], [], []] | 13 => [[], [0], [0], [0], [2], [], [], [], [0], [0], [0], [6], [], [0], [0], [0], [4], [], [], []] | 3 => [[], [], [], [], [], [], [], [], [11], [], [], [], [8, 10, 12], []] | _ => [] }
theorem goes_s0_ok : ∀ v, goes_s0 v = roundOf Try.prog E_along_3 goes_h 1 0 107 (loopOf Try.f87 0) goes_i0 goes_o0 v := by
  rintro ⟨a0, a1, a2, a3, a4, a5, a6, ⟨⟩⟩
  kernel_rfl
theorem goes_q0 : loopList (loopOf Try.f87 0) 1 = [] := by kernel_rfl
theorem goes_l0 : CodeOK Try.prog 0 (.loop (loopOf Try.f87 0)) (goes_h.loop 0) := loop_ok E_along_3_ok (goes_s0_ok) (LoopsOK_of goes_q0 trivial)
theorem goes_okd : ∀ v, goes_d v = pevCall Try.prog E_along_3 goes_h Try.f87 goes_i goes_o goes_r v := by
  rintro ⟨a0, a1, ⟨⟩⟩
  kernel_rfl
theorem goes_q : loopList (bodyOf Try.f87) 0 = [(0, loopOf Try.f87 0)] := by kernel_rfl
theorem goes_spec : SpecOK Try.prog 87 (mkCall 2 goes_i goes_o goes_r goes) := call_spec E_along_3_ok Try.func87 (by kernel_rfl) (by kernel_rfl) rfl (fun v => (goes_eq v).trans (goes_okd v)) (LoopsOK_of goes_q ⟨goes_l0, trivial⟩)
def E_goes : Env := E_along_3.ext 87 true true (mkCall 2 goes_i goes_o goes_r goes)
theorem E_goes_ok : EnvOK Try.prog E_goes := Env.ext_ok E_along_3_ok goes_spec (fun _ => mkCall_local rfl rfl) (fun _ => mkCall_in rfl rfl)
-- archipelago/tour.Right
abbrev tright_h : Hints := { loop := fun n => match n with | 0 => loopBy 0 87 tright_i0 tright_o0 tright_s0 | 1 => loopBy 0 87 tright_i1 tright_o1 tright_s1 | 2 => loopBy 0 87 tright_i2 tright_o2 tright_s2 | _ => fun _ _ _ => none, fp := fun n => match n with | 8 => [[], [], [], [], [], [], [], [], [], [], [], [], [], [], [], [], [], [], [], [], [], [], [], [], [0], [0], [], [], [], []] | _ => [] }
theorem tright_s2_ok : ∀ v, tright_s2 v = roundOf Try.prog E_goes tright_h 3 0 87 (loopOf Try.f74 2) tright_i2 tright_o2 v := by
  rintro ⟨a0, a1, a2, ⟨⟩⟩
  kernel_rfl
theorem tright_q2 : loopList (loopOf Try.f74 2) 3 = [] := by kernel_rfl
theorem tright_l2 : CodeOK Try.prog 0 (.loop (loopOf Try.f74 2)) (tright_h.loop 2) := loop_ok E_goes_ok (tright_s2_ok) (LoopsOK_of tright_q2 trivial)
theorem tright_s1_ok : ∀ v, tright_s1 v = roundOf Try.prog E_goes tright_h 2 0 87 (loopOf Try.f74 1) tright_i1 tright_o1 v := by
  rintro ⟨a0, a1, a2, a3, a4, a5, a6, a7, a8, a9, a10, a11, a12, a13, a14, a15, a16, a17, a18, a19, a20, a21, a22, a23, a24, a25, ⟨⟩⟩
  kernel_rfl
theorem tright_q1 : loopList (loopOf Try.f74 1) 2 = [] := by kernel_rfl
theorem tright_l1 : CodeOK Try.prog 0 (.loop (loopOf Try.f74 1)) (tright_h.loop 1) := loop_ok E_goes_ok (tright_s1_ok) (LoopsOK_of tright_q1 trivial)
theorem tright_s0_ok : ∀ v, tright_s0 v = roundOf Try.prog E_goes tright_h 1 0 87 (loopOf Try.f74 0) tright_i0 tright_o0 v := by
  rintro ⟨a0, a1, a2, a3, a4, a5, a6, ⟨⟩⟩
  kernel_rfl
theorem tright_q0 : loopList (loopOf Try.f74 0) 1 = [(1, loopOf Try.f74 1)] := by kernel_rfl
theorem tright_l0 : CodeOK Try.prog 0 (.loop (loopOf Try.f74 0)) (tright_h.loop 0) := loop_ok E_goes_ok (tright_s0_ok) (LoopsOK_of tright_q0 ⟨tright_l1, trivial⟩)
theorem tright_okd : ∀ v, tright_d v = pevCall Try.prog E_goes tright_h Try.f74 tright_i tright_o tright_r v := by
  rintro ⟨a0, ⟨⟩⟩
  kernel_rfl
theorem tright_q : loopList (bodyOf Try.f74) 0 = [(0, loopOf Try.f74 0), (2, loopOf Try.f74 2)] := by kernel_rfl
theorem tright_spec : SpecOK Try.prog 74 (mkCall 1 tright_i tright_o tright_r tright) := call_spec E_goes_ok Try.func74 (by kernel_rfl) (by kernel_rfl) rfl (fun v => (tright_eq v).trans (tright_okd v)) (LoopsOK_of tright_q ⟨tright_l0, tright_l2, trivial⟩)
def E_tright : Env := E_goes.ext 74 true true (mkCall 1 tright_i tright_o tright_r tright)
theorem E_tright_ok : EnvOK Try.prog E_tright := Env.ext_ok E_goes_ok tright_spec (fun _ => mkCall_local rfl rfl) (fun _ => mkCall_in rfl rfl)
-- archipelago/tour.asked
abbrev asked_h : Hints := {  }
theorem asked_okd : ∀ v, asked_d v = pevCall Try.prog E_tright asked_h Try.f69 asked_i asked_o asked_r v := by
  rintro ⟨a0, a1, a2, ⟨⟩⟩
  kernel_rfl
theorem asked_q : loopList (bodyOf Try.f69) 0 = [] := by kernel_rfl
theorem asked_spec : SpecOK Try.prog 69 (mkCall 3 asked_i asked_o asked_r asked) := call_spec E_tright_ok Try.func69 (by kernel_rfl) (by kernel_rfl) rfl (fun v => (asked_eq v).trans (asked_okd v)) (LoopsOK_of asked_q trivial)
def E_asked : Env := E_tright.ext 69 true true (mkCall 3 asked_i asked_o asked_r asked)
theorem E_asked_ok : EnvOK Try.prog E_asked := Env.ext_ok E_tright_ok asked_spec (fun _ => mkCall_local rfl rfl) (fun _ => mkCall_in rfl rfl)
-- cmp.isNaN[int]
abbrev nanI_h : Hints := {  }
theorem nanI_okd : ∀ v, nanI_d v = pevCall Try.prog E_asked nanI_h Try.f63 nanI_i nanI_o nanI_r v := by
  rintro ⟨a0, ⟨⟩⟩
  kernel_rfl
theorem nanI_q : loopList (bodyOf Try.f63) 0 = [] := by kernel_rfl
theorem nanI_spec : SpecOK Try.prog 63 (mkCall 1 nanI_i nanI_o nanI_r nanI) := call_spec E_asked_ok Try.func63 (by kernel_rfl) (by kernel_rfl) rfl (fun v => (nanI_eq v).trans (nanI_okd v)) (LoopsOK_of nanI_q trivial)
def E_nanI : Env := E_asked.ext 63 true true (mkCall 1 nanI_i nanI_o nanI_r nanI)
theorem E_nanI_ok : EnvOK Try.prog E_nanI := Env.ext_ok E_asked_ok nanI_spec (fun _ => mkCall_local rfl rfl) (fun _ => mkCall_in rfl rfl)
-- cmp.Compare[int]
abbrev compareI_h : Hints := {  }
theorem compareI_okd : ∀ v, compareI_d v = pevCall Try.prog E_nanI compareI_h Try.f56 compareI_i compareI_o compareI_r v := by
  rintro ⟨a0, a1, ⟨⟩⟩
  kernel_rfl
theorem compareI_q : loopList (bodyOf Try.f56) 0 = [] := by kernel_rfl
theorem compareI_spec : SpecOK Try.prog 56 (mkCall 2 compareI_i compareI_o compareI_r compareI) := call_spec E_nanI_ok Try.func56 (by kernel_rfl) (by kernel_rfl) rfl (fun v => (compareI_eq v).trans (compareI_okd v)) (LoopsOK_of compareI_q trivial)
def E_compareI : Env := E_nanI.ext 56 true true (mkCall 2 compareI_i compareI_o compareI_r compareI)
theorem E_compareI_ok : EnvOK Try.prog E_compareI := Env.ext_ok E_nanI_ok compareI_spec (fun _ => mkCall_local rfl rfl) (fun _ => mkCall_in rfl rfl)
-- archipelago/tour.with$1
abbrev with1_h : Hints := { fp := fun n => match n with | 1 => [[], [], [], [], [], [], [], []] | _ => [] }
theorem with1_okd : ∀ v, with1_d v = pevCall Try.prog E_compareI with1_h Try.f84 with1_i with1_o with1_r v := by
  rintro ⟨a0, a1, ⟨⟩⟩
  kernel_rfl
theorem with1_q : loopList (bodyOf Try.f84) 0 = [] := by kernel_rfl
theorem with1_spec : SpecOK Try.prog 84 (mkCall 2 with1_i with1_o with1_r with1) := call_spec E_compareI_ok Try.func84 (by kernel_rfl) (by kernel_rfl) rfl (fun v => (with1_eq v).trans (with1_okd v)) (LoopsOK_of with1_q trivial)
def E_with1 : Env := E_compareI.ext 84 true true (mkCall 2 with1_i with1_o with1_r with1)
theorem E_with1_ok : EnvOK Try.prog E_with1 := Env.ext_ok E_compareI_ok with1_spec (fun _ => mkCall_local rfl rfl) (fun _ => mkCall_in rfl rfl)
-- math/bits.Len64
abbrev len64_h : Hints := {  }
theorem len64_okd : ∀ v, len64_d v = pevCall Try.prog E_with1 len64_h Try.f62 len64_i len64_o len64_r v := by
  rintro ⟨a0, ⟨⟩⟩
  kernel_rfl
theorem len64_q : loopList (bodyOf Try.f62) 0 = [] := by kernel_rfl
theorem len64_spec : SpecOK Try.prog 62 (mkCall 1 len64_i len64_o len64_r len64) := call_spec E_with1_ok Try.func62 (by kernel_rfl) (by kernel_rfl) rfl (fun v => (len64_eq v).trans (len64_okd v)) (LoopsOK_of len64_q trivial)
def E_len64 : Env := E_with1.ext 62 true true (mkCall 1 len64_i len64_o len64_r len64)
theorem E_len64_ok : EnvOK Try.prog E_len64 := Env.ext_ok E_with1_ok len64_spec (fun _ => mkCall_local rfl rfl) (fun _ => mkCall_in rfl rfl)
-- math/bits.Len
abbrev bitsLen_h : Hints := {  }
theorem bitsLen_okd : ∀ v, bitsLen_d v = pevCall Try.prog E_len64 bitsLen_h Try.f54 bitsLen_i bitsLen_o bitsLen_r v := by
  rintro ⟨a0, ⟨⟩⟩
  kernel_rfl
theorem bitsLen_q : loopList (bodyOf Try.f54) 0 = [] := by kernel_rfl
theorem bitsLen_spec : SpecOK Try.prog 54 (mkCall 1 bitsLen_i bitsLen_o bitsLen_r bitsLen) := call_spec E_len64_ok Try.func54 (by kernel_rfl) (by kernel_rfl) rfl (fun v => (bitsLen_eq v).trans (bitsLen_okd v)) (LoopsOK_of bitsLen_q trivial)
def E_bitsLen : Env := E_len64.ext 54 true true (mkCall 1 bitsLen_i bitsLen_o bitsLen_r bitsLen)
theorem E_bitsLen_ok : EnvOK Try.prog E_bitsLen := Env.ext_ok E_len64_ok bitsLen_spec (fun _ => mkCall_local rfl rfl) (fun _ => mkCall_in rfl rfl)
-- (*slices.xorshift).Next
abbrev xorNext_h : Hints := { fp := fun n => match n with | 3 => [[], [0], [0], [], [0], [0], [], [], [0], [1]] | 2 => [[], [0], [0], [], [0], [0], [], [], [0], [1]] | 1 => [[], [0], [0], [], [0], [0], [], [], [0], [1]] | _ => [] }
theorem xorNext_okd : ∀ v, xorNext_d v = pevCall Try.prog E_bitsLen xorNext_h Try.f104 xorNext_i xorNext_o xorNext_r v := by
  rintro ⟨a0, ⟨⟩⟩
  kernel_rfl
theorem xorNext_q : loopList (bodyOf Try.f104) 0 = [] := by kernel_rfl
theorem xorNext_spec : SpecOK Try.prog 104 (mkCall 1 xorNext_i xorNext_o xorNext_r xorNext) := call_spec E_bitsLen_ok Try.func104 (by kernel_rfl) (by kernel_rfl) rfl (fun v => (xorNext_eq v).trans (xorNext_okd v)) (LoopsOK_of xorNext_q trivial)
def E_xorNext : Env := E_bitsLen.ext 104 false true (mkCall 1 xorNext_i xorNext_o xorNext_r xorNext)
theorem E_xorNext_ok : EnvOK Try.prog E_xorNext := Env.ext_ok E_bitsLen_ok xorNext_spec ((by simp)) (fun _ => mkCall_in rfl rfl)
-- slices.nextPowerOfTwo
abbrev nextPow_h : Hints := {  }
theorem nextPow_okd : ∀ v, nextPow_d v = pevCall Try.prog E_xorNext nextPow_h Try.f103 nextPow_i nextPow_o nextPow_r v := by
  rintro ⟨a0, ⟨⟩⟩
  kernel_rfl
theorem nextPow_q : loopList (bodyOf Try.f103) 0 = [] := by kernel_rfl
theorem nextPow_spec : SpecOK Try.prog 103 (mkCall 1 nextPow_i nextPow_o nextPow_r nextPow) := call_spec E_xorNext_ok Try.func103 (by kernel_rfl) (by kernel_rfl) rfl (fun v => (nextPow_eq v).trans (nextPow_okd v)) (LoopsOK_of nextPow_q trivial)
def E_nextPow : Env := E_xorNext.ext 103 true true (mkCall 1 nextPow_i nextPow_o nextPow_r nextPow)
theorem E_nextPow_ok : EnvOK Try.prog E_nextPow := Env.ext_ok E_xorNext_ok nextPow_spec (fun _ => mkCall_local rfl rfl) (fun _ => mkCall_in rfl rfl)
-- slices.insertionSortCmpFunc[[]int]
abbrev insL_h : Hints := { loop := fun n => match n with | 0 => loopBy 1 53 insL_i0 insL_o0 insL_s0 | 1 => loopBy 1 53 insL_i1 insL_o1 insL_s1 | _ => fun _ _ _ => none, fp := fun n => match n with | 4 => [[], [], [], [], [], [], [], [0], [0], [], [], [], [0], [0], [], [], []] | 6 => [[], [], [], [], [], [], [], [], [0], [0], [], [], [0], [0], [0], [1], [0], [1]] | _ => [] }
theorem insL_s1_ok : ∀ v, insL_s1 v = roundOf Try.prog E_nextPow insL_h 2 1 53 (loopOf Try.f94 1) insL_i1 insL_o1 v := by
  rintro ⟨a0, a1, a2, a3, a4, ⟨⟩⟩
  kernel_rfl
theorem insL_q1 : loopList (loopOf Try.f94 1) 2 = [] := by kernel_rfl
theorem insL_l1 : CodeOK Try.prog 1 (.loop (loopOf Try.f94 1)) (insL_h.loop 1) := loop_ok E_nextPow_ok (insL_s1_ok) (LoopsOK_of insL_q1 trivial)
theorem insL_s0_ok : ∀ v, insL_s0 v = roundOf Try.prog E_nextPow insL_h 1 1 53 (loopOf Try.f94 0) insL_i0 insL_o0 v := by
  rintro ⟨a0, a1, a2, a3, ⟨⟩⟩
  kernel_rfl
theorem insL_q0 : loopList (loopOf Try.f94 0) 1 = [(1, loopOf Try.f94 1)] := by kernel_rfl
theorem insL_l0 : CodeOK Try.prog 1 (.loop (loopOf Try.f94 0)) (insL_h.loop 0) := loop_ok E_nextPow_ok (insL_s0_ok) (LoopsOK_of insL_q0 ⟨insL_l1, trivial⟩)
theorem insL_okd : ∀ v, insL_d v = pevCall Try.prog E_nextPow insL_h Try.f94 insL_i insL_o insL_r v := by
  rintro ⟨a0, a1, a2, ⟨⟩⟩
  kernel_rfl
theorem insL_q : loopList (bodyOf Try.f94) 0 = [(0, loopOf Try.f94 0)] := by kernel_rfl
theorem insL_spec : SpecOK Try.prog 94 (mkCall 4 insL_i insL_o insL_r insL) := call_spec E_nextPow_ok Try.func94 (by kernel_rfl) (by kernel_rfl) rfl (fun v => (insL_eq v).trans (insL_okd v)) (LoopsOK_of insL_q ⟨insL_l0, trivial⟩)
def E_insL : Env := E_nextPow.extC 94 3 84 (mkCall 4 insL_i insL_o insL_r insL)
theorem E_insL_ok : EnvOK Try.prog E_insL := Env.extC_ok E_nextPow_ok insL_spec (mkCall_in rfl rfl)
end
end Go.Pev
end
section
namespace Go.Pev
open Go.Proofs
set_option maxRecDepth 100000
noncomputable section
-- slices.siftDownCmpFunc[[]int]
abbrev siftL_h : Hints := { loop := fun n => match n with | 0 => loopBy 1 82 siftL_i0 siftL_o0 siftL_s0 | _ => fun _ _ _ => none, fp := fun n => match n with | 6 => [[], [], [], [], [], [], [], [], [], [], [], [], [0], [0], [], [], [], [], [0], [0], [0], [1], [0], [1]] | 5 => [[], [], [], [], [], [0], [0], [], [], [], [], [0], [0], [], [], []] | 3 => [[], [], [], [], [], [], [], [], [], [], [0], [0], [], [], [], [], [], [0], [0], [], [], []] | _ => [] }
theorem siftL_s0_ok : ∀ v, siftL_s0 v = roundOf Try.prog E_insL siftL_h 1 1 82 (loopOf Try.f102 0) siftL_i0 siftL_o0 v := by
  rintro ⟨a0, a1, a2, a3, ⟨⟩⟩
  kernel_rfl
theorem siftL_q0 : loopList (loopOf Try.f102 0) 1 = [] := by kernel_rfl
theorem siftL_l0 : CodeOK Try.prog 1 (.loop (loopOf Try.f102 0)) (siftL_h.loop 0) := loop_ok E_insL_ok (siftL_s0_ok) (LoopsOK_of siftL_q0 trivial)
theorem siftL_okd : ∀ v, siftL_d v = pevCall Try.prog E_insL siftL_h Try.f102 siftL_i siftL_o siftL_r v := by
  rintro ⟨a0, a1, a2, a3, ⟨⟩⟩
  kernel_rfl
theorem siftL_q : loopList (bodyOf Try.f102) 0 = [(0, loopOf Try.f102 0)] := by kernel_rfl
theorem siftL_spec : SpecOK Try.prog 102 (mkCall 5 siftL_i siftL_o siftL_r siftL) := call_spec E_insL_ok Try.func102 (by kernel_rfl) (by kernel_rfl) rfl (fun v => (siftL_eq v).trans (siftL_okd v)) (LoopsOK_of siftL_q ⟨siftL_l0, trivial⟩)
def E_siftL : Env := E_insL.extC 102 4 84 (mkCall 5 siftL_i siftL_o siftL_r siftL)
theorem E_siftL_ok : EnvOK Try.prog E_siftL := Env.extC_ok E_insL_ok siftL_spec (mkCall_in rfl rfl)
-- slices.heapSortCmpFunc[[]int]
abbrev heapL_h : Hints := { loop := fun n => match n with | 0 => loopBy 1 60 heapL_i0 heapL_o0 heapL_s0 | 1 => loopBy 1 60 heapL_i1 heapL_o1 heapL_s1 | _ => fun _ _ _ => none, fp := fun n => match n with | 10 => [[], [], [], [], [], [], [], [], [], [], [0], [0], [], [], [0], [0], [0], [1], [0], [1]] | _ => [] }
theorem heapL_s1_ok : ∀ v, heapL_s1 v = roundOf Try.prog E_siftL heapL_h 2 1 60 (loopOf Try.f95 1) heapL_i1 heapL_o1 v := by
  rintro ⟨a0, a1, a2, a3, ⟨⟩⟩
  kernel_rfl
theorem heapL_q1 : loopList (loopOf Try.f95 1) 2 = [] := by kernel_rfl
theorem heapL_l1 : CodeOK Try.prog 1 (.loop (loopOf Try.f95 1)) (heapL_h.loop 1) := loop_ok E_siftL_ok (heapL_s1_ok) (LoopsOK_of heapL_q1 trivial)
theorem heapL_s0_ok : ∀ v, heapL_s0 v = roundOf Try.prog E_siftL heapL_h 1 1 60 (loopOf Try.f95 0) heapL_i0 heapL_o0 v := by
  rintro ⟨a0, a1, a2, a3, a4, ⟨⟩⟩
  kernel_rfl
theorem heapL_q0 : loopList (loopOf Try.f95 0) 1 = [] := by kernel_rfl
theorem heapL_l0 : CodeOK Try.prog 1 (.loop (loopOf Try.f95 0)) (heapL_h.loop 0) := loop_ok E_siftL_ok (heapL_s0_ok) (LoopsOK_of heapL_q0 trivial)
theorem heapL_okd : ∀ v, heapL_d v = pevCall Try.prog E_siftL heapL_h Try.f95 heapL_i heapL_o heapL_r v := by
  rintro ⟨a0, a1, a2, ⟨⟩⟩
  kernel_rfl
theorem heapL_q : loopList (bodyOf Try.f95) 0 = [(0, loopOf Try.f95 0), (1, loopOf Try.f95 1)] := by kernel_rfl
theorem heapL_spec : SpecOK Try.prog 95 (mkCall 4 heapL_i heapL_o heapL_r heapL) := call_spec E_siftL_ok Try.func95 (by kernel_rfl) (by kernel_rfl) rfl (fun v => (heapL_eq v).trans (heapL_okd v)) (LoopsOK_of heapL_q ⟨heapL_l0, heapL_l1, trivial⟩)
def E_heapL : Env := E_siftL.extC 95 3 84 (mkCall 4 heapL_i heapL_o heapL_r heapL)
theorem E_heapL_ok : EnvOK Try.prog E_heapL := Env.extC_ok E_siftL_ok heapL_spec (mkCall_in rfl rfl)
-- slices.breakPatternsCmpFunc[[]int]
abbrev breakL_h : Hints := { loop := fun n => match n with | 0 => loopBy 1 67 breakL_i0 breakL_o0 breakL_s0 | _ => fun _ _ _ => none, fp := fun n => match n with | 10 => [[], [], [], [], [], [], [], [], [], [], [0], [0], [], [], [0], [0], [0], [1], [0], [1]] | _ => [] }
theorem breakL_s0_ok : ∀ v, breakL_s0 v = roundOf Try.prog E_heapL breakL_h 1 1 67 (loopOf Try.f96 0) breakL_i0 breakL_o0 v := by
  rintro ⟨a0, a1, a2, a3, a4, a5, ⟨⟩⟩
  kernel_rfl
theorem breakL_q0 : loopList (loopOf Try.f96 0) 1 = [] := by kernel_rfl
theorem breakL_l0 : CodeOK Try.prog 1 (.loop (loopOf Try.f96 0)) (breakL_h.loop 0) := loop_ok E_heapL_ok (breakL_s0_ok) (LoopsOK_of breakL_q0 trivial)
theorem breakL_okd : ∀ v, breakL_d v = pevCall Try.prog E_heapL breakL_h Try.f96 breakL_i breakL_o breakL_r v := by
  rintro ⟨a0, a1, a2, ⟨⟩⟩
  kernel_rfl
theorem breakL_q : loopList (bodyOf Try.f96) 0 = [(0, loopOf Try.f96 0)] := by kernel_rfl
theorem breakL_spec : SpecOK Try.prog 96 (mkCall 4 breakL_i breakL_o breakL_r breakL) := call_spec E_heapL_ok Try.func96 (by kernel_rfl) (by kernel_rfl) rfl (fun v => (breakL_eq v).trans (breakL_okd v)) (LoopsOK_of breakL_q ⟨breakL_l0, trivial⟩)
def E_breakL : Env := E_heapL.extC 96 3 84 (mkCall 4 breakL_i breakL_o breakL_r breakL)
theorem E_breakL_ok : EnvOK Try.prog E_breakL := Env.extC_ok E_heapL_ok breakL_spec (mkCall_in rfl rfl)
-- slices.order2CmpFunc[[]int]
abbrev order2L_h : Hints := { fp := fun n => match n with | 1 => [[], [], [], [0], [0], [], [], [0], [0], [], []] | _ => [] }
theorem order2L_okd : ∀ v, order2L_d v = pevCall Try.prog E_breakL order2L_h Try.f107 order2L_i order2L_o order2L_r v := by
  rintro ⟨a0, a1, a2, a3, ⟨⟩⟩
  kernel_rfl
theorem order2L_q : loopList (bodyOf Try.f107) 0 = [] := by kernel_rfl
theorem order2L_spec : SpecOK Try.prog 107 (mkCall 5 order2L_i order2L_o order2L_r order2L) := call_spec E_breakL_ok Try.func107 (by kernel_rfl) (by kernel_rfl) rfl (fun v => (order2L_eq v).trans (order2L_okd v)) (LoopsOK_of order2L_q trivial)
def E_order2L : Env := E_breakL.extC 107 4 84 (mkCall 5 order2L_i order2L_o order2L_r order2L)
theorem E_order2L_ok : EnvOK Try.prog E_order2L := Env.extC_ok E_breakL_ok order2L_spec (mkCall_in rfl rfl)
-- slices.medianCmpFunc[[]int]
abbrev medianL_h : Hints := {  }
theorem medianL_okd : ∀ v, medianL_d v = pevCall Try.prog E_order2L medianL_h Try.f106 medianL_i medianL_o medianL_r v := by
  rintro ⟨a0, a1, a2, a3, a4, ⟨⟩⟩
  kernel_rfl
theorem medianL_q : loopList (bodyOf Try.f106) 0 = [] := by kernel_rfl
theorem medianL_spec : SpecOK Try.prog 106 (mkCall 6 medianL_i medianL_o medianL_r medianL) := call_spec E_order2L_ok Try.func106 (by kernel_rfl) (by kernel_rfl) rfl (fun v => (medianL_eq v).trans (medianL_okd v)) (LoopsOK_of medianL_q trivial)
def E_medianL : Env := E_order2L.extC 106 5 84 (mkCall 6 medianL_i medianL_o medianL_r medianL)
theorem E_medianL_ok : EnvOK Try.prog E_medianL := Env.extC_ok E_order2L_ok medianL_spec (mkCall_in rfl rfl)
-- slices.medianAdjacentCmpFunc[[]int]
abbrev medAdjL_h : Hints := {  }
theorem medAdjL_okd : ∀ v, medAdjL_d v = pevCall Try.prog E_medianL medAdjL_h Try.f105 medAdjL_i medAdjL_o medAdjL_r v := by
  rintro ⟨a0, a1, a2, ⟨⟩⟩
  kernel_rfl
theorem medAdjL_q : loopList (bodyOf Try.f105) 0 = [] := by kernel_rfl
theorem medAdjL_spec : SpecOK Try.prog 105 (mkCall 4 medAdjL_i medAdjL_o medAdjL_r medAdjL) := call_spec E_medianL_ok Try.func105 (by kernel_rfl) (by kernel_rfl) rfl (fun v => (medAdjL_eq v).trans (medAdjL_okd v)) (LoopsOK_of medAdjL_q trivial)
def E_medAdjL : Env := E_medianL.extC 105 3 84 (mkCall 4 medAdjL_i medAdjL_o medAdjL_r medAdjL)
theorem E_medAdjL_ok : EnvOK Try.prog E_medAdjL := Env.extC_ok E_medianL_ok medAdjL_spec (mkCall_in rfl rfl)
-- slices.choosePivotCmpFunc[[]int]
abbrev pivotL_h : Hints := {  }
theorem pivotL_okd : ∀ v, pivotL_d v = pevCall Try.prog E_medAdjL pivotL_h Try.f97 pivotL_i pivotL_o pivotL_r v := by
  rintro ⟨a0, a1, a2, ⟨⟩⟩
  kernel_rfl
theorem pivotL_q : loopList (bodyOf Try.f97) 0 = [] := by kernel_rfl
theorem pivotL_spec : SpecOK Try.prog 97 (mkCall 4 pivotL_i pivotL_o pivotL_r pivotL) := call_spec E_medAdjL_ok Try.func97 (by kernel_rfl) (by kernel_rfl) rfl (fun v => (pivotL_eq v).trans (pivotL_okd v)) (LoopsOK_of pivotL_q trivial)
def E_pivotL : Env := E_medAdjL.extC 97 3 84 (mkCall 4 pivotL_i pivotL_o pivotL_r pivotL)
theorem E_pivotL_ok : EnvOK Try.prog E_pivotL := Env.extC_ok E_medAdjL_ok pivotL_spec (mkCall_in rfl rfl)
-- slices.reverseRangeCmpFunc[[]int]
abbrev revL_h : Hints := { loop := fun n => match n with | 0 => loopBy 1 34 revL_i0 revL_o0 revL_s0 | _ => fun _ _ _ => none, fp := fun n => match n with | 3 => [[], [], [], [], [], [], [0], [0], [], [], [0], [0], [0], [1], [0], [1]] | _ => [] }
theorem revL_s0_ok : ∀ v, revL_s0 v = roundOf Try.prog E_pivotL revL_h 1 1 34 (loopOf Try.f98 0) revL_i0 revL_o0 v := by
  rintro ⟨a0, a1, a2, ⟨⟩⟩
  kernel_rfl
theorem revL_q0 : loopList (loopOf Try.f98 0) 1 = [] := by kernel_rfl
theorem revL_l0 : CodeOK Try.prog 1 (.loop (loopOf Try.f98 0)) (revL_h.loop 0) := loop_ok E_pivotL_ok (revL_s0_ok) (LoopsOK_of revL_q0 trivial)
theorem revL_okd : ∀ v, revL_d v = pevCall Try.prog E_pivotL revL_h Try.f98 revL_i revL_o revL_r v := by
  rintro ⟨a0, a1, a2, ⟨⟩⟩
  kernel_rfl
theorem revL_q : loopList (bodyOf Try.f98) 0 = [(0, loopOf Try.f98 0)] := by kernel_rfl
theorem revL_spec : SpecOK Try.prog 98 (mkCall 4 revL_i revL_o revL_r revL) := call_spec E_pivotL_ok Try.func98 (by kernel_rfl) (by kernel_rfl) rfl (fun v => (revL_eq v).trans (revL_okd v)) (LoopsOK_of revL_q ⟨revL_l0, trivial⟩)
def E_revL : Env := E_pivotL.extC 98 3 84 (mkCall 4 revL_i revL_o revL_r revL)
theorem E_revL_ok : EnvOK Try.prog E_revL := Env.extC_ok E_pivotL_ok revL_spec (mkCall_in rfl rfl)
-- slices.partialInsertionSortCmpFunc[[]int]
abbrev partInsL_h : Hints := { loop := fun n => match n with | 0 => loopBy 1 141 partInsL_i0 partInsL_o0 partInsL_s0 | 1 => loopBy 1 141 partInsL_i1 partInsL_o1 partInsL_s1 | 2 => loopBy 1 141 partInsL_i2 partInsL_o2 partInsL_s2 | 3 => loopBy 1 141 partInsL_i3 partInsL_o3 partInsL_s3 | _ => fun _ _ _ => none, fp := fun n => match n with | 11 => [[], [], [], [], [], [], [], [], [0], [0], [], [], [0], [0], [0], [1], [0], [1]] | 5 => [[], [], [], [], [], [], [], [0], [0], [], [], [], [0], [0], [], [], [], []] | 17 => [[], [], [], [], [], [], [], [], [0], [0], [], [], [0], [0], [0], [1], [0], [1]] | 16 => [[], [], [], [0], [0], [], [], [], [0], [0], [], [], []] | 23 => [[], [], [], [], [], [], [], [], [0], [0], [], [], [0], [0], [0], [1], [0], [1]] | 22 => [[], [], [], [0], [0], [], [], [], [0], [0], [], [], []] | _ => [] }
theorem partInsL_s3_ok : ∀ v, partInsL_s3 v = roundOf Try.prog E_revL partInsL_h 4 1 141 (loopOf Try.f99 3) partInsL_i3 partInsL_o3 v := by
  rintro ⟨a0, a1, a2, a3, a4, a5, ⟨⟩⟩
  kernel_rfl
theorem partInsL_q3 : loopList (loopOf Try.f99 3) 4 = [] := by kernel_rfl
theorem partInsL_l3 : CodeOK Try.prog 1 (.loop (loopOf Try.f99 3)) (partInsL_h.loop 3) := loop_ok E_revL_ok (partInsL_s3_ok) (LoopsOK_of partInsL_q3 trivial)
theorem partInsL_s2_ok : ∀ v, partInsL_s2 v = roundOf Try.prog E_revL partInsL_h 3 1 141 (loopOf Try.f99 2) partInsL_i2 partInsL_o2 v := by
  rintro ⟨a0, a1, a2, a3, a4, a5, ⟨⟩⟩
  kernel_rfl
theorem partInsL_q2 : loopList (loopOf Try.f99 2) 3 = [] := by kernel_rfl
theorem partInsL_l2 : CodeOK Try.prog 1 (.loop (loopOf Try.f99 2)) (partInsL_h.loop 2) := loop_ok E_revL_ok (partInsL_s2_ok) (LoopsOK_of partInsL_q2 trivial)
theorem partInsL_s1_ok : ∀ v, partInsL_s1 v = roundOf Try.prog E_revL partInsL_h 2 1 141 (loopOf Try.f99 1) partInsL_i1 partInsL_o1 v := by
  rintro ⟨a0, a1, a2, a3, a4, ⟨⟩⟩
  kernel_rfl
theorem partInsL_q1 : loopList (loopOf Try.f99 1) 2 = [] := by kernel_rfl
theorem partInsL_l1 : CodeOK Try.prog 1 (.loop (loopOf Try.f99 1)) (partInsL_h.loop 1) := loop_ok E_revL_ok (partInsL_s1_ok) (LoopsOK_of partInsL_q1 trivial)
theorem partInsL_s0_ok : ∀ v, partInsL_s0 v = roundOf Try.prog E_revL partInsL_h 1 1 141 (loopOf Try.f99 0) partInsL_i0 partInsL_o0 v := by
  rintro ⟨a0, a1, a2, a3, a4, ⟨⟩⟩
  kernel_rfl
theorem partInsL_q0 : loopList (loopOf Try.f99 0) 1 = [(1, loopOf Try.f99 1), (2, loopOf Try.f99 2), (3, loopOf Try.f99 3)] := by kernel_rfl
theorem partInsL_l0 : CodeOK Try.prog 1 (.loop (loopOf Try.f99 0)) (partInsL_h.loop 0) := loop_ok E_revL_ok (partInsL_s0_ok) (LoopsOK_of partInsL_q0 ⟨partInsL_l1, partInsL_l2, partInsL_l3, trivial⟩)
theorem partInsL_okd : ∀ v, partInsL_d v = pevCall Try.prog E_revL partInsL_h Try.f99 partInsL_i partInsL_o partInsL_r v := by
  rintro ⟨a0, a1, a2, ⟨⟩⟩
  kernel_rfl
theorem partInsL_q : loopList (bodyOf Try.f99) 0 = [(0, loopOf Try.f99 0)] := by kernel_rfl
theorem partInsL_spec : SpecOK Try.prog 99 (mkCall 4 partInsL_i partInsL_o partInsL_r partInsL) := call_spec E_revL_ok Try.func99 (by kernel_rfl) (by kernel_rfl) rfl (fun v => (partInsL_eq v).trans (partInsL_okd v)) (LoopsOK_of partInsL_q ⟨partInsL_l0, trivial⟩)
def E_partInsL : Env := E_revL.extC 99 3 84 (mkCall 4 partInsL_i partInsL_o partInsL_r partInsL)
theorem E_partInsL_ok : EnvOK Try.prog E_partInsL := Env.extC_ok E_revL_ok partInsL_spec (mkCall_in rfl rfl)
-- slices.partitionEqualCmpFunc[[]int]
abbrev partEqL_h : Hints := { loop := fun n => match n with | 0 => loopBy 1 90 partEqL_i0 partEqL_o0 partEqL_s0 | 1 => loopBy 1 90 partEqL_i1 partEqL_o1 partEqL_s1 | 2 => loopBy 1 90 partEqL_i2 partEqL_o2 partEqL_s2 | _ => fun _ _ _ => none, fp := fun n => match n with | 8 => [[], [], [], [], [], [], [0], [0], [], [], [0], [0], [0], [1], [0], [1]] | 3 => [[], [], [], [], [], [], [], [0], [0], [], [], [0], [0], [], [], [], []] | 5 => [[], [], [], [], [], [], [], [0], [0], [], [], [0], [0], [], [], []] | 1 => [[], [], [], [], [], [], [0], [0], [], [], [0], [0], [0], [1], [0], [1]] | _ => [] }
theorem partEqL_s2_ok : ∀ v, partEqL_s2 v = roundOf Try.prog E_partInsL partEqL_h 3 1 90 (loopOf Try.f100 2) partEqL_i2 partEqL_o2 v := by
  rintro ⟨a0, a1, a2, a3, ⟨⟩⟩
  kernel_rfl
theorem partEqL_q2 : loopList (loopOf Try.f100 2) 3 = [] := by kernel_rfl
theorem partEqL_l2 : CodeOK Try.prog 1 (.loop (loopOf Try.f100 2)) (partEqL_h.loop 2) := loop_ok E_partInsL_ok (partEqL_s2_ok) (LoopsOK_of partEqL_q2 trivial)
theorem partEqL_s1_ok : ∀ v, partEqL_s1 v = roundOf Try.prog E_partInsL partEqL_h 2 1 90 (loopOf Try.f100 1) partEqL_i1 partEqL_o1 v := by
  rintro ⟨a0, a1, a2, a3, ⟨⟩⟩
  kernel_rfl
theorem partEqL_q1 : loopList (loopOf Try.f100 1) 2 = [] := by kernel_rfl
theorem partEqL_l1 : CodeOK Try.prog 1 (.loop (loopOf Try.f100 1)) (partEqL_h.loop 1) := loop_ok E_partInsL_ok (partEqL_s1_ok) (LoopsOK_of partEqL_q1 trivial)
theorem partEqL_s0_ok : ∀ v, partEqL_s0 v = roundOf Try.prog E_partInsL partEqL_h 1 1 90 (loopOf Try.f100 0) partEqL_i0 partEqL_o0 v := by
  rintro ⟨a0, a1, a2, a3, ⟨⟩⟩
  kernel_rfl
theorem partEqL_q0 : loopList (loopOf Try.f100 0) 1 = [(1, loopOf Try.f100 1), (2, loopOf Try.f100 2)] := by kernel_rfl
theorem partEqL_l0 : CodeOK Try.prog 1 (.loop (loopOf Try.f100 0)) (partEqL_h.loop 0) := loop_ok E_partInsL_ok (partEqL_s0_ok) (LoopsOK_of partEqL_q0 ⟨partEqL_l1, partEqL_l2, trivial⟩)
theorem partEqL_okd : ∀ v, partEqL_d v = pevCall Try.prog E_partInsL partEqL_h Try.f100 partEqL_i partEqL_o partEqL_r v := by
  rintro ⟨a0, a1, a2, a3, ⟨⟩⟩
  kernel_rfl
theorem partEqL_q : loopList (bodyOf Try.f100) 0 = [(0, loopOf Try.f100 0)] := by kernel_rfl
theorem partEqL_spec : SpecOK Try.prog 100 (mkCall 5 partEqL_i partEqL_o partEqL_r partEqL) := call_spec E_partInsL_ok Try.func100 (by kernel_rfl) (by kernel_rfl) rfl (fun v => (partEqL_eq v).trans (partEqL_okd v)) (LoopsOK_of partEqL_q ⟨partEqL_l0, trivial⟩)
def E_partEqL : Env := E_partInsL.extC 100 4 84 (mkCall 5 partEqL_i partEqL_o partEqL_r partEqL)
theorem E_partEqL_ok : EnvOK Try.prog E_partEqL := Env.extC_ok E_partInsL_ok partEqL_spec (mkCall_in rfl rfl)
-- slices.partitionCmpFunc[[]int]
abbrev partL_h : Hints := { loop := fun n => match n with | 0 => loopBy 1 178 partL_i0 partL_o0 partL_s0 | 1 => loopBy 1 178 partL_i1 partL_o1 partL_s1 | 2 => loopBy 1 178 partL_i2 partL_o2 partL_s2 | 3 => loopBy 1 178 partL_i3 partL_o3 partL_s3 | 4 => loopBy 1 178 partL_i4 partL_o4 partL_s4 | _ => fun _ _ _ => none, fp := fun n => match n with | 3 => [[], [], [], [], [], [], [], [0], [0], [], [], [0], [0], [], [], []] | 5 => [[], [], [], [], [], [], [], [0], [0], [], [], [0], [0], [], [], [], []] | 18 => [[], [], [], [], [], [], [0], [0], [], [], [0], [0], [0], [1], [0], [1]] | 13 => [[], [], [], [], [], [], [], [0], [0], [], [], [0], [0], [], [], []] | 15 => [[], [], [], [], [], [], [], [0], [0], [], [], [0], [0], [], [], [], []] | 21 => [[], [], [], [], [], [], [0], [0], [], [], [0], [0], [0], [1], [0], [1]] | 10 => [[], [], [], [], [], [], [0], [0], [], [], [0], [0], [0], [1], [0], [1]] | 8 => [[], [], [], [], [], [], [0], [0], [], [], [0], [0], [0], [1], [0], [1]] | 1 => [[], [], [], [], [], [], [0], [0], [], [], [0], [0], [0], [1], [0], [1]] | _ => [] }
theorem partL_s4_ok : ∀ v, partL_s4 v = roundOf Try.prog E_partEqL partL_h 5 1 178 (loopOf Try.f101 4) partL_i4 partL_o4 v := by
  rintro ⟨a0, a1, a2, a3, ⟨⟩⟩
  kernel_rfl
theorem partL_q4 : loopList (loopOf Try.f101 4) 5 = [] := by kernel_rfl
theorem partL_l4 : CodeOK Try.prog 1 (.loop (loopOf Try.f101 4)) (partL_h.loop 4) := loop_ok E_partEqL_ok (partL_s4_ok) (LoopsOK_of partL_q4 trivial)
theorem partL_s3_ok : ∀ v, partL_s3 v = roundOf Try.prog E_partEqL partL_h 4 1 178 (loopOf Try.f101 3) partL_i3 partL_o3 v := by
  rintro ⟨a0, a1, a2, a3, ⟨⟩⟩
  kernel_rfl
theorem partL_q3 : loopList (loopOf Try.f101 3) 4 = [] := by kernel_rfl
theorem partL_l3 : CodeOK Try.prog 1 (.loop (loopOf Try.f101 3)) (partL_h.loop 3) := loop_ok E_partEqL_ok (partL_s3_ok) (LoopsOK_of partL_q3 trivial)
theorem partL_s2_ok : ∀ v, partL_s2 v = roundOf Try.prog E_partEqL partL_h 3 1 178 (loopOf Try.f101 2) partL_i2 partL_o2 v := by
  rintro ⟨a0, a1, a2, a3, ⟨⟩⟩
  kernel_rfl
theorem partL_q2 : loopList (loopOf Try.f101 2) 3 = [(3, loopOf Try.f101 3), (4, loopOf Try.f101 4)] := by kernel_rfl
theorem partL_l2 : CodeOK Try.prog 1 (.loop (loopOf Try.f101 2)) (partL_h.loop 2) := loop_ok E_partEqL_ok (partL_s2_ok) (LoopsOK_of partL_q2 ⟨partL_l3, partL_l4, trivial⟩)
theorem partL_s1_ok : ∀ v, partL_s1 v = roundOf Try.prog E_partEqL partL_h 2 1 178 (loopOf Try.f101 1) partL_i1 partL_o1 v := by
  rintro ⟨a0, a1, a2, a3, ⟨⟩⟩
  kernel_rfl
theorem partL_q1 : loopList (loopOf Try.f101 1) 2 = [] := by kernel_rfl
theorem partL_l1 : CodeOK Try.prog 1 (.loop (loopOf Try.f101 1)) (partL_h.loop 1) := loop_ok E_partEqL_ok (partL_s1_ok) (LoopsOK_of partL_q1 trivial)
theorem partL_s0_ok : ∀ v, partL_s0 v = roundOf Try.prog E_partEqL partL_h 1 1 178 (loopOf Try.f101 0) partL_i0 partL_o0 v := by
  rintro ⟨a0, a1, a2, a3, ⟨⟩⟩
  kernel_rfl
theorem partL_q0 : loopList (loopOf Try.f101 0) 1 = [] := by kernel_rfl
theorem partL_l0 : CodeOK Try.prog 1 (.loop (loopOf Try.f101 0)) (partL_h.loop 0) := loop_ok E_partEqL_ok (partL_s0_ok) (LoopsOK_of partL_q0 trivial)
theorem partL_okd : ∀ v, partL_d v = pevCall Try.prog E_partEqL partL_h Try.f101 partL_i partL_o partL_r v := by
  rintro ⟨a0, a1, a2, a3, ⟨⟩⟩
  kernel_rfl
theorem partL_q : loopList (bodyOf Try.f101) 0 = [(0, loopOf Try.f101 0), (1, loopOf Try.f101 1), (2, loopOf Try.f101 2)] := by kernel_rfl
theorem partL_spec : SpecOK Try.prog 101 (mkCall 5 partL_i partL_o partL_r partL) := call_spec E_partEqL_ok Try.func101 (by kernel_rfl) (by kernel_rfl) rfl (fun v => (partL_eq v).trans (partL_okd v)) (LoopsOK_of partL_q ⟨partL_l0, partL_l1, partL_l2, trivial⟩)
def E_partL : Env := E_partEqL.extC 101 4 84 (mkCall 5 partL_i partL_o partL_r partL)
theorem E_partL_ok : EnvOK Try.prog E_partL := Env.extC_ok E_partEqL_ok partL_spec (mkCall_in rfl rfl)
-- slices.pdqsortCmpFunc[[]int]
abbrev pdqL_h (self : (List (List Int) × Int × Int × Int × Unit) → Option ((List (List Int) × Unit))) : Hints := { loop := fun n => match n with | 0 => loopBy 1 148 pdqL_i0 pdqL_o0 (pdqL_s0 self) | _ => fun _ _ _ => none, fp := fun n => match n with | 17 => [[], [], [], [], [], [], [], [0], [0], [], [], [0], [0], [], [], [], []] | _ => [] }
abbrev pdqL_E (self : (List (List Int) × Int × Int × Int × Unit) → Option ((List (List Int) × Unit))) : Env := E_partL.ext 89 false true (mkCall 5 pdqL_i pdqL_o pdqL_r self)
theorem pdqL_s0_ok (self : (List (List Int) × Int × Int × Int × Unit) → Option ((List (List Int) × Unit))) : ∀ v, pdqL_s0 self v = roundOf Try.prog (pdqL_E self) (pdqL_h self) 1 1 148 (loopOf Try.f89 0) pdqL_i0 pdqL_o0 v := by
  rintro ⟨a0, a1, a2, a3, a4, a5, ⟨⟩⟩
  kernel_rfl
theorem pdqL_q0 : loopList (loopOf Try.f89 0) 1 = [] := by kernel_rfl
theorem pdqL_l0 (self : (List (List Int) × Int × Int × Int × Unit) → Option ((List (List Int) × Unit))) (hE : EnvOK Try.prog (pdqL_E self)) : CodeOK Try.prog 1 (.loop (loopOf Try.f89 0)) ((pdqL_h self).loop 0) := loop_ok hE (pdqL_s0_ok self) (LoopsOK_of pdqL_q0 trivial)
theorem pdqL_okd (self : (List (List Int) × Int × Int × Int × Unit) → Option ((List (List Int) × Unit))) : ∀ v, pdqL_d self v = pevCall Try.prog (pdqL_E self) (pdqL_h self) Try.f89 pdqL_i pdqL_o pdqL_r v := by
  rintro ⟨a0, a1, a2, a3, ⟨⟩⟩
  kernel_rfl
theorem pdqL_q : loopList (bodyOf Try.f89) 0 = [(0, loopOf Try.f89 0)] := by kernel_rfl
theorem pdqL_fspec : ∀ n, SpecOK Try.prog 89 (mkCall 5 pdqL_i pdqL_o pdqL_r (pdqL_f n)) := by
  intro n
  induction n with
  | zero => exact mkCall_none fun _ => rfl
  | succ n ih =>
    have hE : EnvOK Try.prog (pdqL_E (pdqL_f n)) := Env.ext_ok E_partL_ok ih ((by simp)) (fun _ => mkCall_in rfl rfl)
    let self := pdqL_f n
    exact call_spec hE Try.func89 (by kernel_rfl) (by kernel_rfl) rfl (pdqL_okd self) (LoopsOK_of pdqL_q ⟨(pdqL_l0 self hE), trivial⟩)
theorem pdqL_spec : SpecOK Try.prog 89 (mkCall 5 pdqL_i pdqL_o pdqL_r pdqL) := by
  have e : pdqL = pdqL_f 100 := funext pdqL_eq
  rw [e]
  exact pdqL_fspec _
def E_pdqL : Env := E_partL.extC 89 4 84 (mkCall 5 pdqL_i pdqL_o pdqL_r pdqL)
theorem E_pdqL_ok : EnvOK Try.prog E_pdqL := Env.extC_ok E_partL_ok pdqL_spec (mkCall_in rfl rfl)
end
end Go.Pev
end
section
namespace Go.Pev
open Go.Proofs
set_option maxRecDepth 100000
noncomputable section
-- slices.SortFunc[[][]int,[]int]
abbrev sortL_h : Hints := {  }
theorem sortL_okd : ∀ v, sortL_d v = pevCall Try.prog E_pdqL sortL_h Try.f83 sortL_i sortL_o sortL_r v := by
  rintro ⟨a0, ⟨⟩⟩
  kernel_rfl
theorem sortL_q : loopList (bodyOf Try.f83) 0 = [] := by kernel_rfl
theorem sortL_spec : SpecOK Try.prog 83 (mkCall 2 sortL_i sortL_o sortL_r sortL) := call_spec E_pdqL_ok Try.func83 (by kernel_rfl) (by kernel_rfl) rfl (fun v => (sortL_eq v).trans (sortL_okd v)) (LoopsOK_of sortL_q trivial)
def E_sortL : Env := E_pdqL.extC 83 1 84 (mkCall 2 sortL_i sortL_o sortL_r sortL)
theorem E_sortL_ok : EnvOK Try.prog E_sortL := Env.extC_ok E_pdqL_ok sortL_spec (mkCall_in rfl rfl)
-- archipelago/tour.with
abbrev twith_h : Hints := { loop := fun n => match n with | 0 => loopBy 0 47 twith_i0 twith_o0 twith_s0 | 1 => loopBy 0 47 twith_i1 twith_o1 twith_s1 | _ => fun _ _ _ => none }
theorem twith_s1_ok : ∀ v, twith_s1 v = roundOf Try.prog E_sortL twith_h 2 0 47 (loopOf Try.f73 1) twith_i1 twith_o1 v := by
  rintro ⟨a0, a1, a2, a3, a4, a5, a6, ⟨⟩⟩
  kernel_rfl
theorem twith_q1 : loopList (loopOf Try.f73 1) 2 = [] := by kernel_rfl
theorem twith_l1 : CodeOK Try.prog 0 (.loop (loopOf Try.f73 1)) (twith_h.loop 1) := loop_ok E_sortL_ok (twith_s1_ok) (LoopsOK_of twith_q1 trivial)
theorem twith_s0_ok : ∀ v, twith_s0 v = roundOf Try.prog E_sortL twith_h 1 0 47 (loopOf Try.f73 0) twith_i0 twith_o0 v := by
  rintro ⟨a0, a1, a2, a3, a4, a5, a6, a7, a8, ⟨⟩⟩
  kernel_rfl
theorem twith_q0 : loopList (loopOf Try.f73 0) 1 = [] := by kernel_rfl
theorem twith_l0 : CodeOK Try.prog 0 (.loop (loopOf Try.f73 0)) (twith_h.loop 0) := loop_ok E_sortL_ok (twith_s0_ok) (LoopsOK_of twith_q0 trivial)
theorem twith_okd : ∀ v, twith_d v = pevCall Try.prog E_sortL twith_h Try.f73 twith_i twith_o twith_r v := by
  rintro ⟨a0, a1, a2, ⟨⟩⟩
  kernel_rfl
theorem twith_q : loopList (bodyOf Try.f73) 0 = [(0, loopOf Try.f73 0), (1, loopOf Try.f73 1)] := by kernel_rfl
theorem twith_spec : SpecOK Try.prog 73 (mkCall 3 twith_i twith_o twith_r twith) := call_spec E_sortL_ok Try.func73 (by kernel_rfl) (by kernel_rfl) rfl (fun v => (twith_eq v).trans (twith_okd v)) (LoopsOK_of twith_q ⟨twith_l0, twith_l1, trivial⟩)
def E_twith : Env := E_sortL.ext 73 true true (mkCall 3 twith_i twith_o twith_r twith)
theorem E_twith_ok : EnvOK Try.prog E_twith := Env.ext_ok E_sortL_ok twith_spec (fun _ => mkCall_local rfl rfl) (fun _ => mkCall_in rfl rfl)
-- archipelago/tour.Link
abbrev tlink_h : Hints := { fp := fun n => match n with | 9 => [[], [28], [0], [0], [], [], [], [], [], [0], [0], [], [], [], [], [], [28], [28, 52, 36, 62], [64], []] | 4 => [[0], [], [], [0], [], [], [], []] | _ => [] }
theorem tlink_okd : ∀ v, tlink_d v = pevCall Try.prog E_twith tlink_h Try.f66 tlink_i tlink_o tlink_r v := by
  rintro ⟨a0, a1, a2, ⟨⟩⟩
  kernel_rfl
theorem tlink_q : loopList (bodyOf Try.f66) 0 = [] := by kernel_rfl
theorem tlink_spec : SpecOK Try.prog 66 (mkCall 3 tlink_i tlink_o tlink_r tlink) := call_spec E_twith_ok Try.func66 (by kernel_rfl) (by kernel_rfl) rfl (fun v => (tlink_eq v).trans (tlink_okd v)) (LoopsOK_of tlink_q trivial)
def E_tlink : Env := E_twith.ext 66 true true (mkCall 3 tlink_i tlink_o tlink_r tlink)
theorem E_tlink_ok : EnvOK Try.prog E_tlink := Env.ext_ok E_twith_ok tlink_spec (fun _ => mkCall_local rfl rfl) (fun _ => mkCall_in rfl rfl)
-- archipelago/forest.there$1: gone through in place
theorem there1_b : Try.f75.body.isSome = true := by kernel_rfl
theorem there1_n : (Try.f75.name == "runtime.NumGoroutine") = false := by kernel_rfl
theorem there1_z : loops (bodyOf Try.f75) = 0 := by kernel_rfl
def E_there1_4 : Env := E_tlink.ext 75 false false (mkInline Try.prog E_tlink {} Try.f75)
theorem E_there1_4_ok : EnvOK Try.prog E_there1_4 := Env.ext_ok E_tlink_ok (inline_spec E_tlink_ok Try.func75 there1_b there1_n there1_z) (by simp) (by simp)
-- slices.IndexFunc[[]int,int]
abbrev idxFuncI_there_h : Hints := { loop := fun n => match n with | 0 => loopBy 1 19 idxFuncI_there_i0 idxFuncI_there_o0 idxFuncI_there_s0 | _ => fun _ _ _ => none }
theorem idxFuncI_there_s0_ok : ∀ v, idxFuncI_there_s0 v = roundOf Try.prog E_there1_4 idxFuncI_there_h 1 1 19 (loopOf Try.f43 0) idxFuncI_there_i0 idxFuncI_there_o0 v := by
  rintro ⟨a0, a1, a2, a3, a4, ⟨⟩⟩
  kernel_rfl
theorem idxFuncI_there_q0 : loopList (loopOf Try.f43 0) 1 = [] := by kernel_rfl
theorem idxFuncI_there_l0 : CodeOK Try.prog 1 (.loop (loopOf Try.f43 0)) (idxFuncI_there_h.loop 0) := loop_ok E_there1_4_ok (idxFuncI_there_s0_ok) (LoopsOK_of idxFuncI_there_q0 trivial)
theorem idxFuncI_there_okd : ∀ v, idxFuncI_there_d v = pevCall Try.prog E_there1_4 idxFuncI_there_h Try.f43 idxFuncI_there_i idxFuncI_there_o idxFuncI_there_r v := by
  rintro ⟨a0, a1, a2, ⟨⟩⟩
  kernel_rfl
theorem idxFuncI_there_q : loopList (bodyOf Try.f43) 0 = [(0, loopOf Try.f43 0)] := by kernel_rfl
theorem idxFuncI_there_spec : SpecOK Try.prog 43 (mkCall 2 idxFuncI_there_i idxFuncI_there_o idxFuncI_there_r idxFuncI_there) := call_spec E_there1_4_ok Try.func43 (by kernel_rfl) (by kernel_rfl) rfl (fun v => (idxFuncI_there_eq v).trans (idxFuncI_there_okd v)) (LoopsOK_of idxFuncI_there_q ⟨idxFuncI_there_l0, trivial⟩)
def E_idxFuncI_there : Env := E_there1_4.extC 43 1 75 (mkCall 2 idxFuncI_there_i idxFuncI_there_o idxFuncI_there_r idxFuncI_there)
theorem E_idxFuncI_there_ok : EnvOK Try.prog E_idxFuncI_there := Env.extC_ok E_there1_4_ok idxFuncI_there_spec (mkCall_in rfl rfl)
-- slices.ContainsFunc[[]int,int]
abbrev contFuncI_there_h : Hints := {  }
theorem contFuncI_there_okd : ∀ v, contFuncI_there_d v = pevCall Try.prog E_idxFuncI_there contFuncI_there_h Try.f26 contFuncI_there_i contFuncI_there_o contFuncI_there_r v := by
  rintro ⟨a0, a1, a2, ⟨⟩⟩
  kernel_rfl
theorem contFuncI_there_q : loopList (bodyOf Try.f26) 0 = [] := by kernel_rfl
theorem contFuncI_there_spec : SpecOK Try.prog 26 (mkCall 2 contFuncI_there_i contFuncI_there_o contFuncI_there_r contFuncI_there) := call_spec E_idxFuncI_there_ok Try.func26 (by kernel_rfl) (by kernel_rfl) rfl (fun v => (contFuncI_there_eq v).trans (contFuncI_there_okd v)) (LoopsOK_of contFuncI_there_q trivial)
def E_contFuncI_there : Env := E_idxFuncI_there.extC 26 1 75 (mkCall 2 contFuncI_there_i contFuncI_there_o contFuncI_there_r contFuncI_there)
theorem E_contFuncI_there_ok : EnvOK Try.prog E_contFuncI_there := Env.extC_ok E_idxFuncI_there_ok contFuncI_there_spec (mkCall_in rfl rfl)
-- archipelago/forest.there
abbrev fthere_h : Hints := {  }
theorem fthere_okd : ∀ v, fthere_d v = pevCall Try.prog E_contFuncI_there fthere_h Try.f67 fthere_i fthere_o fthere_r v := by
  rintro ⟨a0, a1, ⟨⟩⟩
  kernel_rfl
theorem fthere_q : loopList (bodyOf Try.f67) 0 = [] := by kernel_rfl
theorem fthere_spec : SpecOK Try.prog 67 (mkCall 2 fthere_i fthere_o fthere_r fthere) := call_spec E_contFuncI_there_ok Try.func67 (by kernel_rfl) (by kernel_rfl) rfl (fun v => (fthere_eq v).trans (fthere_okd v)) (LoopsOK_of fthere_q trivial)
def E_fthere : Env := E_contFuncI_there.ext 67 true true (mkCall 2 fthere_i fthere_o fthere_r fthere)
theorem E_fthere_ok : EnvOK Try.prog E_fthere := Env.ext_ok E_contFuncI_there_ok fthere_spec (fun _ => mkCall_local rfl rfl) (fun _ => mkCall_in rfl rfl)
-- archipelago/forest.ends
abbrev ends_h : Hints := { loop := fun n => match n with | 0 => loopBy 0 21 ends_i0 ends_o0 ends_s0 | _ => fun _ _ _ => none }
theorem ends_s0_ok : ∀ v, ends_s0 v = roundOf Try.prog E_fthere ends_h 1 0 21 (loopOf Try.f68 0) ends_i0 ends_o0 v := by
  rintro ⟨a0, a1, a2, a3, ⟨⟩⟩
  kernel_rfl
theorem ends_q0 : loopList (loopOf Try.f68 0) 1 = [] := by kernel_rfl
theorem ends_l0 : CodeOK Try.prog 0 (.loop (loopOf Try.f68 0)) (ends_h.loop 0) := loop_ok E_fthere_ok (ends_s0_ok) (LoopsOK_of ends_q0 trivial)
theorem ends_okd : ∀ v, ends_d v = pevCall Try.prog E_fthere ends_h Try.f68 ends_i ends_o ends_r v := by
  rintro ⟨a0, ⟨⟩⟩
  kernel_rfl
theorem ends_q : loopList (bodyOf Try.f68) 0 = [(0, loopOf Try.f68 0)] := by kernel_rfl
theorem ends_spec : SpecOK Try.prog 68 (mkCall 1 ends_i ends_o ends_r ends) := call_spec E_fthere_ok Try.func68 (by kernel_rfl) (by kernel_rfl) rfl (fun v => (ends_eq v).trans (ends_okd v)) (LoopsOK_of ends_q ⟨ends_l0, trivial⟩)
def E_ends : Env := E_fthere.ext 68 true true (mkCall 1 ends_i ends_o ends_r ends)
theorem E_ends_ok : EnvOK Try.prog E_ends := Env.ext_ok E_fthere_ok ends_spec (fun _ => mkCall_local rfl rfl) (fun _ => mkCall_in rfl rfl)
-- archipelago/forest.each
abbrev eachLink_h : Hints := { loop := fun n => match n with | 0 => loopBy 0 48 eachLink_i0 eachLink_o0 eachLink_s0 | _ => fun _ _ _ => none, fp := fun n => match n with | 1 => [[0], [], [], [4], []] | _ => [] }
theorem eachLink_s0_ok : ∀ v, eachLink_s0 v = roundOf Try.prog E_ends eachLink_h 1 0 48 (loopOf Try.f65 0) eachLink_i0 eachLink_o0 v := by
  rintro ⟨a0, a1, a2, a3, a4, a5, a6, ⟨⟩⟩
  kernel_rfl
theorem eachLink_q0 : loopList (loopOf Try.f65 0) 1 = [] := by kernel_rfl
theorem eachLink_l0 : CodeOK Try.prog 0 (.loop (loopOf Try.f65 0)) (eachLink_h.loop 0) := loop_ok E_ends_ok (eachLink_s0_ok) (LoopsOK_of eachLink_q0 trivial)
theorem eachLink_okd : ∀ v, eachLink_d v = pevCall Try.prog E_ends eachLink_h Try.f65 eachLink_i eachLink_o eachLink_r v := by
  rintro ⟨a0, a1, ⟨⟩⟩
  kernel_rfl
theorem eachLink_q : loopList (bodyOf Try.f65) 0 = [(0, loopOf Try.f65 0)] := by kernel_rfl
theorem eachLink_spec : SpecOK Try.prog 65 (mkCall 3 eachLink_i eachLink_o eachLink_r eachLink) := call_spec E_ends_ok Try.func65 (by kernel_rfl) (by kernel_rfl) rfl (fun v => (eachLink_eq v).trans (eachLink_okd v)) (LoopsOK_of eachLink_q ⟨eachLink_l0, trivial⟩)
def E_eachLink : Env := E_ends.extC 65 2 66 (mkCall 3 eachLink_i eachLink_o eachLink_r eachLink)
theorem E_eachLink_ok : EnvOK Try.prog E_eachLink := Env.extC_ok E_ends_ok eachLink_spec (mkCall_in rfl rfl)
-- archipelago/forest.Links
abbrev flinks_h : Hints := {  }
theorem flinks_okd : ∀ v, flinks_d v = pevCall Try.prog E_eachLink flinks_h Try.f58 flinks_i flinks_o flinks_r v := by
  rintro ⟨a0, a1, ⟨⟩⟩
  kernel_rfl
theorem flinks_q : loopList (bodyOf Try.f58) 0 = [] := by kernel_rfl
theorem flinks_spec : SpecOK Try.prog 58 (mkCall 2 flinks_i flinks_o flinks_r flinks) := call_spec E_eachLink_ok Try.func58 (by kernel_rfl) (by kernel_rfl) rfl (fun v => (flinks_eq v).trans (flinks_okd v)) (LoopsOK_of flinks_q trivial)
def E_flinks : Env := E_eachLink.ext 58 true true (mkCall 2 flinks_i flinks_o flinks_r flinks)
theorem E_flinks_ok : EnvOK Try.prog E_flinks := Env.ext_ok E_eachLink_ok flinks_spec (fun _ => mkCall_local rfl rfl) (fun _ => mkCall_in rfl rfl)
-- archipelago/forest.Of
abbrev fof_h : Hints := {  }
theorem fof_okd : ∀ v, fof_d v = pevCall Try.prog E_flinks fof_h Try.f48 fof_i fof_o fof_r v := by
  rintro ⟨a0, a1, ⟨⟩⟩
  kernel_rfl
theorem fof_q : loopList (bodyOf Try.f48) 0 = [] := by kernel_rfl
theorem fof_spec : SpecOK Try.prog 48 (mkCall 2 fof_i fof_o fof_r fof) := call_spec E_flinks_ok Try.func48 (by kernel_rfl) (by kernel_rfl) rfl (fun v => (fof_eq v).trans (fof_okd v)) (LoopsOK_of fof_q trivial)
def E_fof : Env := E_flinks.ext 48 true true (mkCall 2 fof_i fof_o fof_r fof)
theorem E_fof_ok : EnvOK Try.prog E_fof := Env.ext_ok E_flinks_ok fof_spec (fun _ => mkCall_local rfl rfl) (fun _ => mkCall_in rfl rfl)
-- cmp.Or[int]
abbrev orI_h : Hints := { loop := fun n => match n with | 0 => loopBy 0 18 orI_i0 orI_o0 orI_s0 | _ => fun _ _ _ => none }
theorem orI_s0_ok : ∀ v, orI_s0 v = roundOf Try.prog E_fof orI_h 1 0 18 (loopOf Try.f55 0) orI_i0 orI_o0 v := by
  rintro ⟨a0, a1, a2, a3, ⟨⟩⟩
  kernel_rfl
theorem orI_q0 : loopList (loopOf Try.f55 0) 1 = [] := by kernel_rfl
theorem orI_l0 : CodeOK Try.prog 0 (.loop (loopOf Try.f55 0)) (orI_h.loop 0) := loop_ok E_fof_ok (orI_s0_ok) (LoopsOK_of orI_q0 trivial)
theorem orI_okd : ∀ v, orI_d v = pevCall Try.prog E_fof orI_h Try.f55 orI_i orI_o orI_r v := by
  rintro ⟨a0, ⟨⟩⟩
  kernel_rfl
theorem orI_q : loopList (bodyOf Try.f55) 0 = [(0, loopOf Try.f55 0)] := by kernel_rfl
theorem orI_spec : SpecOK Try.prog 55 (mkCall 1 orI_i orI_o orI_r orI) := call_spec E_fof_ok Try.func55 (by kernel_rfl) (by kernel_rfl) rfl (fun v => (orI_eq v).trans (orI_okd v)) (LoopsOK_of orI_q ⟨orI_l0, trivial⟩)
def E_orI : Env := E_fof.ext 55 true true (mkCall 1 orI_i orI_o orI_r orI)
theorem E_orI_ok : EnvOK Try.prog E_orI := Env.ext_ok E_fof_ok orI_spec (fun _ => mkCall_local rfl rfl) (fun _ => mkCall_in rfl rfl)
end
end Go.Pev
end
section
namespace Go.Pev
open Go.Proofs
set_option maxRecDepth 100000
noncomputable section
-- archipelago/level.sized
abbrev lsized_h : Hints := {  }
theorem lsized_okd : ∀ v, lsized_d v = pevCall Try.prog E_orI lsized_h Try.f44 lsized_i lsized_o lsized_r v := by
  rintro ⟨a0, ⟨⟩⟩
  kernel_rfl
theorem lsized_q : loopList (bodyOf Try.f44) 0 = [] := by kernel_rfl
theorem lsized_spec : SpecOK Try.prog 44 (mkCall 1 lsized_i lsized_o lsized_r lsized) := call_spec E_orI_ok Try.func44 (by kernel_rfl) (by kernel_rfl) rfl (fun v => (lsized_eq v).trans (lsized_okd v)) (LoopsOK_of lsized_q trivial)
def E_lsized : Env := E_orI.ext 44 true true (mkCall 1 lsized_i lsized_o lsized_r lsized)
theorem E_lsized_ok : EnvOK Try.prog E_lsized := Env.ext_ok E_orI_ok lsized_spec (fun _ => mkCall_local rfl rfl) (fun _ => mkCall_in rfl rfl)
-- archipelago/level.Top
abbrev ltop_h : Hints := {  }
theorem ltop_okd : ∀ v, ltop_d v = pevCall Try.prog E_lsized ltop_h Try.f45 ltop_i ltop_o ltop_r v := by
  rintro ⟨a0, ⟨⟩⟩
  kernel_rfl
theorem ltop_q : loopList (bodyOf Try.f45) 0 = [] := by kernel_rfl
theorem ltop_spec : SpecOK Try.prog 45 (mkCall 1 ltop_i ltop_o ltop_r ltop) := call_spec E_lsized_ok Try.func45 (by kernel_rfl) (by kernel_rfl) rfl (fun v => (ltop_eq v).trans (ltop_okd v)) (LoopsOK_of ltop_q trivial)
def E_ltop : Env := E_lsized.ext 45 true true (mkCall 1 ltop_i ltop_o ltop_r ltop)
theorem E_ltop_ok : EnvOK Try.prog E_ltop := Env.ext_ok E_lsized_ok ltop_spec (fun _ => mkCall_local rfl rfl) (fun _ => mkCall_in rfl rfl)
-- archipelago/level.compare
abbrev lcompare_h : Hints := { fp := fun n => match n with | 1 => [[0], [0], [2], [2], [], [0], [0], [2], [2], [], [], [20], []] | _ => [] }
theorem lcompare_okd : ∀ v, lcompare_d v = pevCall Try.prog E_ltop lcompare_h Try.f46 lcompare_i lcompare_o lcompare_r v := by
  rintro ⟨a0, a1, ⟨⟩⟩
  kernel_rfl
theorem lcompare_q : loopList (bodyOf Try.f46) 0 = [] := by kernel_rfl
theorem lcompare_spec : SpecOK Try.prog 46 (mkCall 2 lcompare_i lcompare_o lcompare_r lcompare) := call_spec E_ltop_ok Try.func46 (by kernel_rfl) (by kernel_rfl) rfl (fun v => (lcompare_eq v).trans (lcompare_okd v)) (LoopsOK_of lcompare_q trivial)
def E_lcompare : Env := E_ltop.ext 46 true true (mkCall 2 lcompare_i lcompare_o lcompare_r lcompare)
theorem E_lcompare_ok : EnvOK Try.prog E_lcompare := Env.ext_ok E_ltop_ok lcompare_spec (fun _ => mkCall_local rfl rfl) (fun _ => mkCall_in rfl rfl)
-- archipelago/level.trees
abbrev ltrees_h : Hints := { loop := fun n => match n with | 0 => loopBy 0 33 ltrees_i0 ltrees_o0 ltrees_s0 | _ => fun _ _ _ => none }
theorem ltrees_s0_ok : ∀ v, ltrees_s0 v = roundOf Try.prog E_lcompare ltrees_h 1 0 33 (loopOf Try.f47 0) ltrees_i0 ltrees_o0 v := by
  rintro ⟨a0, a1, a2, a3, a4, ⟨⟩⟩
  kernel_rfl
theorem ltrees_q0 : loopList (loopOf Try.f47 0) 1 = [] := by kernel_rfl
theorem ltrees_l0 : CodeOK Try.prog 0 (.loop (loopOf Try.f47 0)) (ltrees_h.loop 0) := loop_ok E_lcompare_ok (ltrees_s0_ok) (LoopsOK_of ltrees_q0 trivial)
theorem ltrees_okd : ∀ v, ltrees_d v = pevCall Try.prog E_lcompare ltrees_h Try.f47 ltrees_i ltrees_o ltrees_r v := by
  rintro ⟨a0, a1, ⟨⟩⟩
  kernel_rfl
theorem ltrees_q : loopList (bodyOf Try.f47) 0 = [(0, loopOf Try.f47 0)] := by kernel_rfl
theorem ltrees_spec : SpecOK Try.prog 47 (mkCall 2 ltrees_i ltrees_o ltrees_r ltrees) := call_spec E_lcompare_ok Try.func47 (by kernel_rfl) (by kernel_rfl) rfl (fun v => (ltrees_eq v).trans (ltrees_okd v)) (LoopsOK_of ltrees_q ⟨ltrees_l0, trivial⟩)
def E_ltrees : Env := E_lcompare.ext 47 true true (mkCall 2 ltrees_i ltrees_o ltrees_r ltrees)
theorem E_ltrees_ok : EnvOK Try.prog E_ltrees := Env.ext_ok E_lcompare_ok ltrees_spec (fun _ => mkCall_local rfl rfl) (fun _ => mkCall_in rfl rfl)
-- archipelago/level.Right
abbrev lright_h : Hints := { loop := fun n => match n with | 0 => loopBy 0 96 lright_i0 lright_o0 lright_s0 | _ => fun _ _ _ => none, fp := fun n => match n with | 7 => [[2], [2], [], [], [2], [2], [2], [2], [], [], [], [2], [2], [0], [0], [], [], [], [2], [2], [], [], [], [2], [2], [], [], [], [], [], [], [], [0], [0], [], [], [], [], [2], [], [], [], []] | _ => [] }
theorem lright_s0_ok : ∀ v, lright_s0 v = roundOf Try.prog E_ltrees lright_h 1 0 96 (loopOf Try.f35 0) lright_i0 lright_o0 v := by
  rintro ⟨a0, a1, a2, a3, a4, a5, ⟨⟩⟩
  kernel_rfl
theorem lright_q0 : loopList (loopOf Try.f35 0) 1 = [] := by kernel_rfl
theorem lright_l0 : CodeOK Try.prog 0 (.loop (loopOf Try.f35 0)) (lright_h.loop 0) := loop_ok E_ltrees_ok (lright_s0_ok) (LoopsOK_of lright_q0 trivial)
theorem lright_okd : ∀ v, lright_d v = pevCall Try.prog E_ltrees lright_h Try.f35 lright_i lright_o lright_r v := by
  rintro ⟨a0, ⟨⟩⟩
  kernel_rfl
theorem lright_q : loopList (bodyOf Try.f35) 0 = [(0, loopOf Try.f35 0)] := by kernel_rfl
theorem lright_spec : SpecOK Try.prog 35 (mkCall 1 lright_i lright_o lright_r lright) := call_spec E_ltrees_ok Try.func35 (by kernel_rfl) (by kernel_rfl) rfl (fun v => (lright_eq v).trans (lright_okd v)) (LoopsOK_of lright_q ⟨lright_l0, trivial⟩)
def E_lright : Env := E_ltrees.ext 35 true true (mkCall 1 lright_i lright_o lright_r lright)
theorem E_lright_ok : EnvOK Try.prog E_lright := Env.ext_ok E_ltrees_ok lright_spec (fun _ => mkCall_local rfl rfl) (fun _ => mkCall_in rfl rfl)
-- archipelago/level.Edges
abbrev ledges_h : Hints := { loop := fun n => match n with | 0 => loopBy 0 26 ledges_i0 ledges_o0 ledges_s0 | _ => fun _ _ _ => none }
theorem ledges_s0_ok : ∀ v, ledges_s0 v = roundOf Try.prog E_lright ledges_h 1 0 26 (loopOf Try.f37 0) ledges_i0 ledges_o0 v := by
  rintro ⟨a0, a1, a2, a3, ⟨⟩⟩
  kernel_rfl
theorem ledges_q0 : loopList (loopOf Try.f37 0) 1 = [] := by kernel_rfl
theorem ledges_l0 : CodeOK Try.prog 0 (.loop (loopOf Try.f37 0)) (ledges_h.loop 0) := loop_ok E_lright_ok (ledges_s0_ok) (LoopsOK_of ledges_q0 trivial)
theorem ledges_okd : ∀ v, ledges_d v = pevCall Try.prog E_lright ledges_h Try.f37 ledges_i ledges_o ledges_r v := by
  rintro ⟨a0, ⟨⟩⟩
  kernel_rfl
theorem ledges_q : loopList (bodyOf Try.f37) 0 = [(0, loopOf Try.f37 0)] := by kernel_rfl
theorem ledges_spec : SpecOK Try.prog 37 (mkCall 1 ledges_i ledges_o ledges_r ledges) := call_spec E_lright_ok Try.func37 (by kernel_rfl) (by kernel_rfl) rfl (fun v => (ledges_eq v).trans (ledges_okd v)) (LoopsOK_of ledges_q ⟨ledges_l0, trivial⟩)
def E_ledges : Env := E_lright.ext 37 true true (mkCall 1 ledges_i ledges_o ledges_r ledges)
theorem E_ledges_ok : EnvOK Try.prog E_ledges := Env.ext_ok E_lright_ok ledges_spec (fun _ => mkCall_local rfl rfl) (fun _ => mkCall_in rfl rfl)
-- archipelago/span.asked
abbrev sasked_h : Hints := { loop := fun n => match n with | 0 => loopBy 0 35 sasked_i0 sasked_o0 sasked_s0 | _ => fun _ _ _ => none }
theorem sasked_s0_ok : ∀ v, sasked_s0 v = roundOf Try.prog E_ledges sasked_h 1 0 35 (loopOf Try.f49 0) sasked_i0 sasked_o0 v := by
  rintro ⟨a0, a1, a2, a3, ⟨⟩⟩
  kernel_rfl
theorem sasked_q0 : loopList (loopOf Try.f49 0) 1 = [] := by kernel_rfl
theorem sasked_l0 : CodeOK Try.prog 0 (.loop (loopOf Try.f49 0)) (sasked_h.loop 0) := loop_ok E_ledges_ok (sasked_s0_ok) (LoopsOK_of sasked_q0 trivial)
theorem sasked_okd : ∀ v, sasked_d v = pevCall Try.prog E_ledges sasked_h Try.f49 sasked_i sasked_o sasked_r v := by
  rintro ⟨a0, a1, ⟨⟩⟩
  kernel_rfl
theorem sasked_q : loopList (bodyOf Try.f49) 0 = [(0, loopOf Try.f49 0)] := by kernel_rfl
theorem sasked_spec : SpecOK Try.prog 49 (mkCall 2 sasked_i sasked_o sasked_r sasked) := call_spec E_ledges_ok Try.func49 (by kernel_rfl) (by kernel_rfl) rfl (fun v => (sasked_eq v).trans (sasked_okd v)) (LoopsOK_of sasked_q ⟨sasked_l0, trivial⟩)
def E_sasked : Env := E_ledges.ext 49 true true (mkCall 2 sasked_i sasked_o sasked_r sasked)
theorem E_sasked_ok : EnvOK Try.prog E_sasked := Env.ext_ok E_ledges_ok sasked_spec (fun _ => mkCall_local rfl rfl) (fun _ => mkCall_in rfl rfl)
-- archipelago/span.alone
abbrev salone_h : Hints := { loop := fun n => match n with | 0 => loopBy 0 18 salone_i0 salone_o0 salone_s0 | _ => fun _ _ _ => none }
theorem salone_s0_ok : ∀ v, salone_s0 v = roundOf Try.prog E_sasked salone_h 1 0 18 (loopOf Try.f50 0) salone_i0 salone_o0 v := by
  rintro ⟨a0, a1, a2, ⟨⟩⟩
  kernel_rfl
theorem salone_q0 : loopList (loopOf Try.f50 0) 1 = [] := by kernel_rfl
theorem salone_l0 : CodeOK Try.prog 0 (.loop (loopOf Try.f50 0)) (salone_h.loop 0) := loop_ok E_sasked_ok (salone_s0_ok) (LoopsOK_of salone_q0 trivial)
theorem salone_okd : ∀ v, salone_d v = pevCall Try.prog E_sasked salone_h Try.f50 salone_i salone_o salone_r v := by
  rintro ⟨a0, ⟨⟩⟩
  kernel_rfl
theorem salone_q : loopList (bodyOf Try.f50) 0 = [(0, loopOf Try.f50 0)] := by kernel_rfl
theorem salone_spec : SpecOK Try.prog 50 (mkCall 1 salone_i salone_o salone_r salone) := call_spec E_sasked_ok Try.func50 (by kernel_rfl) (by kernel_rfl) rfl (fun v => (salone_eq v).trans (salone_okd v)) (LoopsOK_of salone_q ⟨salone_l0, trivial⟩)
def E_salone : Env := E_sasked.ext 50 true true (mkCall 1 salone_i salone_o salone_r salone)
theorem E_salone_ok : EnvOK Try.prog E_salone := Env.ext_ok E_sasked_ok salone_spec (fun _ => mkCall_local rfl rfl) (fun _ => mkCall_in rfl rfl)
-- (archipelago/span.sets).least
abbrev sleast_h : Hints := { loop := fun n => match n with | 0 => loopBy 1 26 sleast_i0 sleast_o0 sleast_s0 | _ => fun _ _ _ => none }
theorem sleast_s0_ok : ∀ v, sleast_s0 v = roundOf Try.prog E_salone sleast_h 1 1 26 (loopOf Try.f52 0) sleast_i0 sleast_o0 v := by
  rintro ⟨a0, a1, ⟨⟩⟩
  kernel_rfl
theorem sleast_q0 : loopList (loopOf Try.f52 0) 1 = [] := by kernel_rfl
theorem sleast_l0 : CodeOK Try.prog 1 (.loop (loopOf Try.f52 0)) (sleast_h.loop 0) := loop_ok E_salone_ok (sleast_s0_ok) (LoopsOK_of sleast_q0 trivial)
theorem sleast_okd : ∀ v, sleast_d v = pevCall Try.prog E_salone sleast_h Try.f52 sleast_i sleast_o sleast_r v := by
  rintro ⟨a0, a1, ⟨⟩⟩
  kernel_rfl
theorem sleast_q : loopList (bodyOf Try.f52) 0 = [(0, loopOf Try.f52 0)] := by kernel_rfl
theorem sleast_spec : SpecOK Try.prog 52 (mkCall 2 sleast_i sleast_o sleast_r sleast) := call_spec E_salone_ok Try.func52 (by kernel_rfl) (by kernel_rfl) rfl (fun v => (sleast_eq v).trans (sleast_okd v)) (LoopsOK_of sleast_q ⟨sleast_l0, trivial⟩)
def E_sleast : Env := E_salone.ext 52 false true (mkCall 2 sleast_i sleast_o sleast_r sleast)
theorem E_sleast_ok : EnvOK Try.prog E_sleast := Env.ext_ok E_salone_ok sleast_spec ((by simp)) (fun _ => mkCall_in rfl rfl)
-- (archipelago/span.sets).join
abbrev sjoin_h : Hints := {  }
theorem sjoin_okd : ∀ v, sjoin_d v = pevCall Try.prog E_sleast sjoin_h Try.f60 sjoin_i sjoin_o sjoin_r v := by
  rintro ⟨a0, a1, a2, ⟨⟩⟩
  kernel_rfl
theorem sjoin_q : loopList (bodyOf Try.f60) 0 = [] := by kernel_rfl
theorem sjoin_spec : SpecOK Try.prog 60 (mkCall 3 sjoin_i sjoin_o sjoin_r sjoin) := call_spec E_sleast_ok Try.func60 (by kernel_rfl) (by kernel_rfl) rfl (fun v => (sjoin_eq v).trans (sjoin_okd v)) (LoopsOK_of sjoin_q trivial)
def E_sjoin : Env := E_sleast.ext 60 false true (mkCall 3 sjoin_i sjoin_o sjoin_r sjoin)
theorem E_sjoin_ok : EnvOK Try.prog E_sjoin := Env.ext_ok E_sleast_ok sjoin_spec ((by simp)) (fun _ => mkCall_in rfl rfl)
-- archipelago/span.each
abbrev eachJoin_h : Hints := { loop := fun n => match n with | 0 => loopBy 1 25 eachJoin_i0 eachJoin_o0 eachJoin_s0 | _ => fun _ _ _ => none }
theorem eachJoin_s0_ok : ∀ v, eachJoin_s0 v = roundOf Try.prog E_sjoin eachJoin_h 1 1 25 (loopOf Try.f59 0) eachJoin_i0 eachJoin_o0 v := by
  rintro ⟨a0, a1, a2, a3, a4, ⟨⟩⟩
  kernel_rfl
theorem eachJoin_q0 : loopList (loopOf Try.f59 0) 1 = [] := by kernel_rfl
theorem eachJoin_l0 : CodeOK Try.prog 1 (.loop (loopOf Try.f59 0)) (eachJoin_h.loop 0) := loop_ok E_sjoin_ok (eachJoin_s0_ok) (LoopsOK_of eachJoin_q0 trivial)
theorem eachJoin_okd : ∀ v, eachJoin_d v = pevCall Try.prog E_sjoin eachJoin_h Try.f59 eachJoin_i eachJoin_o eachJoin_r v := by
  rintro ⟨a0, a1, ⟨⟩⟩
  kernel_rfl
theorem eachJoin_q : loopList (bodyOf Try.f59) 0 = [(0, loopOf Try.f59 0)] := by kernel_rfl
theorem eachJoin_spec : SpecOK Try.prog 59 (mkCall 2 eachJoin_i eachJoin_o eachJoin_r eachJoin) := call_spec E_sjoin_ok Try.func59 (by kernel_rfl) (by kernel_rfl) rfl (fun v => (eachJoin_eq v).trans (eachJoin_okd v)) (LoopsOK_of eachJoin_q ⟨eachJoin_l0, trivial⟩)
def E_eachJoin : Env := E_sjoin.extC 59 1 60 (mkCall 2 eachJoin_i eachJoin_o eachJoin_r eachJoin)
theorem E_eachJoin_ok : EnvOK Try.prog E_eachJoin := Env.extC_ok E_sjoin_ok eachJoin_spec (mkCall_in rfl rfl)
-- (archipelago/span.sets).joins
abbrev sjoins_h : Hints := {  }
theorem sjoins_okd : ∀ v, sjoins_d v = pevCall Try.prog E_eachJoin sjoins_h Try.f51 sjoins_i sjoins_o sjoins_r v := by
  rintro ⟨a0, a1, ⟨⟩⟩
  kernel_rfl
theorem sjoins_q : loopList (bodyOf Try.f51) 0 = [] := by kernel_rfl
theorem sjoins_spec : SpecOK Try.prog 51 (mkCall 2 sjoins_i sjoins_o sjoins_r sjoins) := call_spec E_eachJoin_ok Try.func51 (by kernel_rfl) (by kernel_rfl) rfl (fun v => (sjoins_eq v).trans (sjoins_okd v)) (LoopsOK_of sjoins_q trivial)
def E_sjoins : Env := E_eachJoin.ext 51 false true (mkCall 2 sjoins_i sjoins_o sjoins_r sjoins)
theorem E_sjoins_ok : EnvOK Try.prog E_sjoins := Env.ext_ok E_eachJoin_ok sjoins_spec ((by simp)) (fun _ => mkCall_in rfl rfl)
end
end Go.Pev
end
section
namespace Go.Pev
open Go.Proofs
set_option maxRecDepth 100000
noncomputable section
-- archipelago/span.Classes
abbrev sclasses_h : Hints := { loop := fun n => match n with | 0 => loopBy 0 33 sclasses_i0 sclasses_o0 sclasses_s0 | _ => fun _ _ _ => none }
theorem sclasses_s0_ok : ∀ v, sclasses_s0 v = roundOf Try.prog E_sjoins sclasses_h 1 0 33 (loopOf Try.f36 0) sclasses_i0 sclasses_o0 v := by
  rintro ⟨a0, a1, a2, ⟨⟩⟩
  kernel_rfl
theorem sclasses_q0 : loopList (loopOf Try.f36 0) 1 = [] := by kernel_rfl
theorem sclasses_l0 : CodeOK Try.prog 0 (.loop (loopOf Try.f36 0)) (sclasses_h.loop 0) := loop_ok E_sjoins_ok (sclasses_s0_ok) (LoopsOK_of sclasses_q0 trivial)
theorem sclasses_okd : ∀ v, sclasses_d v = pevCall Try.prog E_sjoins sclasses_h Try.f36 sclasses_i sclasses_o sclasses_r v := by
  rintro ⟨a0, a1, ⟨⟩⟩
  kernel_rfl
theorem sclasses_q : loopList (bodyOf Try.f36) 0 = [(0, loopOf Try.f36 0)] := by kernel_rfl
theorem sclasses_spec : SpecOK Try.prog 36 (mkCall 2 sclasses_i sclasses_o sclasses_r sclasses) := call_spec E_sjoins_ok Try.func36 (by kernel_rfl) (by kernel_rfl) rfl (fun v => (sclasses_eq v).trans (sclasses_okd v)) (LoopsOK_of sclasses_q ⟨sclasses_l0, trivial⟩)
def E_sclasses : Env := E_sjoins.ext 36 true true (mkCall 2 sclasses_i sclasses_o sclasses_r sclasses)
theorem E_sclasses_ok : EnvOK Try.prog E_sclasses := Env.ext_ok E_sjoins_ok sclasses_spec (fun _ => mkCall_local rfl rfl) (fun _ => mkCall_in rfl rfl)
-- archipelago/say.of
abbrev sayof_h : Hints := { fp := fun n => match n with | 3 => [[0], [0], [0], [], [10], [], [], [], [], []] | _ => [] }
theorem sayof_okd : ∀ v, sayof_d v = pevCall Try.prog E_sclasses sayof_h Try.f20 sayof_i sayof_o sayof_r v := by
  rintro ⟨a0, ⟨⟩⟩
  kernel_rfl
theorem sayof_q : loopList (bodyOf Try.f20) 0 = [] := by kernel_rfl
theorem sayof_spec : SpecOK Try.prog 20 (mkCall 1 sayof_i sayof_o sayof_r sayof) := call_spec E_sclasses_ok Try.func20 (by kernel_rfl) (by kernel_rfl) rfl (fun v => (sayof_eq v).trans (sayof_okd v)) (LoopsOK_of sayof_q trivial)
def E_sayof : Env := E_sclasses.ext 20 true true (mkCall 1 sayof_i sayof_o sayof_r sayof)
theorem E_sayof_ok : EnvOK Try.prog E_sayof := Env.ext_ok E_sclasses_ok sayof_spec (fun _ => mkCall_local rfl rfl) (fun _ => mkCall_in rfl rfl)
-- archipelago/say.fits
abbrev sfits_h : Hints := {  }
theorem sfits_okd : ∀ v, sfits_d v = pevCall Try.prog E_sayof sfits_h Try.f28 sfits_i sfits_o sfits_r v := by
  rintro ⟨a0, ⟨⟩⟩
  kernel_rfl
theorem sfits_q : loopList (bodyOf Try.f28) 0 = [] := by kernel_rfl
theorem sfits_spec : SpecOK Try.prog 28 (mkCall 1 sfits_i sfits_o sfits_r sfits) := call_spec E_sayof_ok Try.func28 (by kernel_rfl) (by kernel_rfl) rfl (fun v => (sfits_eq v).trans (sfits_okd v)) (LoopsOK_of sfits_q trivial)
def E_sfits : Env := E_sayof.ext 28 true true (mkCall 1 sfits_i sfits_o sfits_r sfits)
theorem E_sfits_ok : EnvOK Try.prog E_sfits := Env.ext_ok E_sayof_ok sfits_spec (fun _ => mkCall_local rfl rfl) (fun _ => mkCall_in rfl rfl)
-- archipelago/say.Encode$1: gone through in place
theorem enc1_b : Try.f27.body.isSome = true := by kernel_rfl
theorem enc1_n : (Try.f27.name == "runtime.NumGoroutine") = false := by kernel_rfl
theorem enc1_z : loops (bodyOf Try.f27) = 0 := by kernel_rfl
def E_enc1_5 : Env := E_sfits.ext 27 false false (mkInline Try.prog E_sfits {} Try.f27)
theorem E_enc1_5_ok : EnvOK Try.prog E_enc1_5 := Env.ext_ok E_sfits_ok (inline_spec E_sfits_ok Try.func27 enc1_b enc1_n enc1_z) (by simp) (by simp)
-- slices.IndexFunc[[]int,int]
abbrev idxFuncI_enc_h : Hints := { loop := fun n => match n with | 0 => loopBy 0 19 idxFuncI_enc_i0 idxFuncI_enc_o0 idxFuncI_enc_s0 | _ => fun _ _ _ => none }
theorem idxFuncI_enc_s0_ok : ∀ v, idxFuncI_enc_s0 v = roundOf Try.prog E_enc1_5 idxFuncI_enc_h 1 0 19 (loopOf Try.f43 0) idxFuncI_enc_i0 idxFuncI_enc_o0 v := by
  rintro ⟨a0, a1, a2, ⟨⟩⟩
  kernel_rfl
theorem idxFuncI_enc_q0 : loopList (loopOf Try.f43 0) 1 = [] := by kernel_rfl
theorem idxFuncI_enc_l0 : CodeOK Try.prog 0 (.loop (loopOf Try.f43 0)) (idxFuncI_enc_h.loop 0) := loop_ok E_enc1_5_ok (idxFuncI_enc_s0_ok) (LoopsOK_of idxFuncI_enc_q0 trivial)
theorem idxFuncI_enc_okd : ∀ v, idxFuncI_enc_d v = pevCall Try.prog E_enc1_5 idxFuncI_enc_h Try.f43 idxFuncI_enc_i idxFuncI_enc_o idxFuncI_enc_r v := by
  rintro ⟨a0, ⟨⟩⟩
  kernel_rfl
theorem idxFuncI_enc_q : loopList (bodyOf Try.f43) 0 = [(0, loopOf Try.f43 0)] := by kernel_rfl
theorem idxFuncI_enc_spec : SpecOK Try.prog 43 (mkCall 2 idxFuncI_enc_i idxFuncI_enc_o idxFuncI_enc_r idxFuncI_enc) := call_spec E_enc1_5_ok Try.func43 (by kernel_rfl) (by kernel_rfl) rfl (fun v => (idxFuncI_enc_eq v).trans (idxFuncI_enc_okd v)) (LoopsOK_of idxFuncI_enc_q ⟨idxFuncI_enc_l0, trivial⟩)
def E_idxFuncI_enc : Env := E_enc1_5.extC 43 1 27 (mkCall 2 idxFuncI_enc_i idxFuncI_enc_o idxFuncI_enc_r idxFuncI_enc)
theorem E_idxFuncI_enc_ok : EnvOK Try.prog E_idxFuncI_enc := Env.extC_ok E_enc1_5_ok idxFuncI_enc_spec (mkCall_in rfl rfl)
-- slices.ContainsFunc[[]int,int]
abbrev contFuncI_enc_h : Hints := {  }
theorem contFuncI_enc_okd : ∀ v, contFuncI_enc_d v = pevCall Try.prog E_idxFuncI_enc contFuncI_enc_h Try.f26 contFuncI_enc_i contFuncI_enc_o contFuncI_enc_r v := by
  rintro ⟨a0, ⟨⟩⟩
  kernel_rfl
theorem contFuncI_enc_q : loopList (bodyOf Try.f26) 0 = [] := by kernel_rfl
theorem contFuncI_enc_spec : SpecOK Try.prog 26 (mkCall 2 contFuncI_enc_i contFuncI_enc_o contFuncI_enc_r contFuncI_enc) := call_spec E_idxFuncI_enc_ok Try.func26 (by kernel_rfl) (by kernel_rfl) rfl (fun v => (contFuncI_enc_eq v).trans (contFuncI_enc_okd v)) (LoopsOK_of contFuncI_enc_q trivial)
def E_contFuncI_enc : Env := E_idxFuncI_enc.extC 26 1 27 (mkCall 2 contFuncI_enc_i contFuncI_enc_o contFuncI_enc_r contFuncI_enc)
theorem E_contFuncI_enc_ok : EnvOK Try.prog E_contFuncI_enc := Env.extC_ok E_idxFuncI_enc_ok contFuncI_enc_spec (mkCall_in rfl rfl)
-- archipelago/say.Encode
abbrev sencode_h : Hints := { loop := fun n => match n with | 0 => loopBy 0 49 sencode_i0 sencode_o0 sencode_s0 | _ => fun _ _ _ => none }
theorem sencode_s0_ok : ∀ v, sencode_s0 v = roundOf Try.prog E_contFuncI_enc sencode_h 1 0 49 (loopOf Try.f13 0) sencode_i0 sencode_o0 v := by
  rintro ⟨a0, a1, a2, a3, ⟨⟩⟩
  kernel_rfl
theorem sencode_q0 : loopList (loopOf Try.f13 0) 1 = [] := by kernel_rfl
theorem sencode_l0 : CodeOK Try.prog 0 (.loop (loopOf Try.f13 0)) (sencode_h.loop 0) := loop_ok E_contFuncI_enc_ok (sencode_s0_ok) (LoopsOK_of sencode_q0 trivial)
theorem sencode_okd : ∀ v, sencode_d v = pevCall Try.prog E_contFuncI_enc sencode_h Try.f13 sencode_i sencode_o sencode_r v := by
  rintro ⟨a0, ⟨⟩⟩
  kernel_rfl
theorem sencode_q : loopList (bodyOf Try.f13) 0 = [(0, loopOf Try.f13 0)] := by kernel_rfl
theorem sencode_spec : SpecOK Try.prog 13 (mkCall 1 sencode_i sencode_o sencode_r sencode) := call_spec E_contFuncI_enc_ok Try.func13 (by kernel_rfl) (by kernel_rfl) rfl (fun v => (sencode_eq v).trans (sencode_okd v)) (LoopsOK_of sencode_q ⟨sencode_l0, trivial⟩)
def E_sencode : Env := E_contFuncI_enc.ext 13 true true (mkCall 1 sencode_i sencode_o sencode_r sencode)
theorem E_sencode_ok : EnvOK Try.prog E_sencode := Env.ext_ok E_contFuncI_enc_ok sencode_spec (fun _ => mkCall_local rfl rfl) (fun _ => mkCall_in rfl rfl)
-- (archipelago/say.classes).there$1: gone through in place
theorem cthere1_b : Try.f53.body.isSome = true := by kernel_rfl
theorem cthere1_n : (Try.f53.name == "runtime.NumGoroutine") = false := by kernel_rfl
theorem cthere1_z : loops (bodyOf Try.f53) = 0 := by kernel_rfl
def E_cthere1_6 : Env := E_sencode.ext 53 false false (mkInline Try.prog E_sencode {} Try.f53)
theorem E_cthere1_6_ok : EnvOK Try.prog E_cthere1_6 := Env.ext_ok E_sencode_ok (inline_spec E_sencode_ok Try.func53 cthere1_b cthere1_n cthere1_z) (by simp) (by simp)
-- slices.IndexFunc[[]int,int]
abbrev idxFuncI_cthere_h : Hints := { loop := fun n => match n with | 0 => loopBy 1 19 idxFuncI_cthere_i0 idxFuncI_cthere_o0 idxFuncI_cthere_s0 | _ => fun _ _ _ => none }
theorem idxFuncI_cthere_s0_ok : ∀ v, idxFuncI_cthere_s0 v = roundOf Try.prog E_cthere1_6 idxFuncI_cthere_h 1 1 19 (loopOf Try.f43 0) idxFuncI_cthere_i0 idxFuncI_cthere_o0 v := by
  rintro ⟨a0, a1, a2, a3, ⟨⟩⟩
  kernel_rfl
theorem idxFuncI_cthere_q0 : loopList (loopOf Try.f43 0) 1 = [] := by kernel_rfl
theorem idxFuncI_cthere_l0 : CodeOK Try.prog 1 (.loop (loopOf Try.f43 0)) (idxFuncI_cthere_h.loop 0) := loop_ok E_cthere1_6_ok (idxFuncI_cthere_s0_ok) (LoopsOK_of idxFuncI_cthere_q0 trivial)
theorem idxFuncI_cthere_okd : ∀ v, idxFuncI_cthere_d v = pevCall Try.prog E_cthere1_6 idxFuncI_cthere_h Try.f43 idxFuncI_cthere_i idxFuncI_cthere_o idxFuncI_cthere_r v := by
  rintro ⟨a0, a1, ⟨⟩⟩
  kernel_rfl
theorem idxFuncI_cthere_q : loopList (bodyOf Try.f43) 0 = [(0, loopOf Try.f43 0)] := by kernel_rfl
theorem idxFuncI_cthere_spec : SpecOK Try.prog 43 (mkCall 2 idxFuncI_cthere_i idxFuncI_cthere_o idxFuncI_cthere_r idxFuncI_cthere) := call_spec E_cthere1_6_ok Try.func43 (by kernel_rfl) (by kernel_rfl) rfl (fun v => (idxFuncI_cthere_eq v).trans (idxFuncI_cthere_okd v)) (LoopsOK_of idxFuncI_cthere_q ⟨idxFuncI_cthere_l0, trivial⟩)
def E_idxFuncI_cthere : Env := E_cthere1_6.extC 43 1 53 (mkCall 2 idxFuncI_cthere_i idxFuncI_cthere_o idxFuncI_cthere_r idxFuncI_cthere)
theorem E_idxFuncI_cthere_ok : EnvOK Try.prog E_idxFuncI_cthere := Env.extC_ok E_cthere1_6_ok idxFuncI_cthere_spec (mkCall_in rfl rfl)
-- slices.ContainsFunc[[]int,int]
abbrev contFuncI_cthere_h : Hints := {  }
theorem contFuncI_cthere_okd : ∀ v, contFuncI_cthere_d v = pevCall Try.prog E_idxFuncI_cthere contFuncI_cthere_h Try.f26 contFuncI_cthere_i contFuncI_cthere_o contFuncI_cthere_r v := by
  rintro ⟨a0, a1, ⟨⟩⟩
  kernel_rfl
theorem contFuncI_cthere_q : loopList (bodyOf Try.f26) 0 = [] := by kernel_rfl
theorem contFuncI_cthere_spec : SpecOK Try.prog 26 (mkCall 2 contFuncI_cthere_i contFuncI_cthere_o contFuncI_cthere_r contFuncI_cthere) := call_spec E_idxFuncI_cthere_ok Try.func26 (by kernel_rfl) (by kernel_rfl) rfl (fun v => (contFuncI_cthere_eq v).trans (contFuncI_cthere_okd v)) (LoopsOK_of contFuncI_cthere_q trivial)
def E_contFuncI_cthere : Env := E_idxFuncI_cthere.extC 26 1 53 (mkCall 2 contFuncI_cthere_i contFuncI_cthere_o contFuncI_cthere_r contFuncI_cthere)
theorem E_contFuncI_cthere_ok : EnvOK Try.prog E_contFuncI_cthere := Env.extC_ok E_idxFuncI_cthere_ok contFuncI_cthere_spec (mkCall_in rfl rfl)
-- (archipelago/say.classes).there
abbrev cthere_h : Hints := {  }
theorem cthere_okd : ∀ v, cthere_d v = pevCall Try.prog E_contFuncI_cthere cthere_h Try.f38 cthere_i cthere_o cthere_r v := by
  rintro ⟨a0, a1, ⟨⟩⟩
  kernel_rfl
theorem cthere_q : loopList (bodyOf Try.f38) 0 = [] := by kernel_rfl
theorem cthere_spec : SpecOK Try.prog 38 (mkCall 2 cthere_i cthere_o cthere_r cthere) := call_spec E_contFuncI_cthere_ok Try.func38 (by kernel_rfl) (by kernel_rfl) rfl (fun v => (cthere_eq v).trans (cthere_okd v)) (LoopsOK_of cthere_q trivial)
def E_cthere : Env := E_contFuncI_cthere.ext 38 true true (mkCall 2 cthere_i cthere_o cthere_r cthere)
theorem E_cthere_ok : EnvOK Try.prog E_cthere := Env.ext_ok E_contFuncI_cthere_ok cthere_spec (fun _ => mkCall_local rfl rfl) (fun _ => mkCall_in rfl rfl)
-- (archipelago/say.classes).answer$1: gone through in place
theorem ans1_b : Try.f40.body.isSome = true := by kernel_rfl
theorem ans1_n : (Try.f40.name == "runtime.NumGoroutine") = false := by kernel_rfl
theorem ans1_z : loops (bodyOf Try.f40) = 0 := by kernel_rfl
def E_ans1_7 : Env := E_cthere.ext 40 false false (mkInline Try.prog E_cthere {} Try.f40)
theorem E_ans1_7_ok : EnvOK Try.prog E_ans1_7 := Env.ext_ok E_cthere_ok (inline_spec E_cthere_ok Try.func40 ans1_b ans1_n ans1_z) (by simp) (by simp)
end
end Go.Pev
end
section
namespace Go.Pev
open Go.Proofs
set_option maxRecDepth 100000
noncomputable section
-- (archipelago/say.classes).count
abbrev count1_h : Hints := { loop := fun n => match n with | 0 => loopBy 2 22 count1_i0 count1_o0 count1_s0 | _ => fun _ _ _ => none }
theorem count1_s0_ok : ∀ v, count1_s0 v = roundOf Try.prog E_ans1_7 count1_h 1 2 22 (loopOf Try.f39 0) count1_i0 count1_o0 v := by
  rintro ⟨a0, a1, a2, a3, a4, a5, a6, a7, ⟨⟩⟩
  kernel_rfl
theorem count1_q0 : loopList (loopOf Try.f39 0) 1 = [] := by kernel_rfl
theorem count1_l0 : CodeOK Try.prog 2 (.loop (loopOf Try.f39 0)) (count1_h.loop 0) := loop_ok E_ans1_7_ok (count1_s0_ok) (LoopsOK_of count1_q0 trivial)
theorem count1_okd : ∀ v, count1_d v = pevCall Try.prog E_ans1_7 count1_h Try.f39 count1_i count1_o count1_r v := by
  rintro ⟨a0, a1, a2, a3, a4, ⟨⟩⟩
  kernel_rfl
theorem count1_q : loopList (bodyOf Try.f39) 0 = [(0, loopOf Try.f39 0)] := by kernel_rfl
theorem count1_spec : SpecOK Try.prog 39 (mkCall 2 count1_i count1_o count1_r count1) := call_spec E_ans1_7_ok Try.func39 (by kernel_rfl) (by kernel_rfl) rfl (fun v => (count1_eq v).trans (count1_okd v)) (LoopsOK_of count1_q ⟨count1_l0, trivial⟩)
def E_count1 : Env := E_ans1_7.extC 39 1 40 (mkCall 2 count1_i count1_o count1_r count1)
theorem E_count1_ok : EnvOK Try.prog E_count1 := Env.extC_ok E_ans1_7_ok count1_spec (mkCall_in rfl rfl)
-- (archipelago/say.classes).answer$2: gone through in place
theorem ans2_b : Try.f41.body.isSome = true := by kernel_rfl
theorem ans2_n : (Try.f41.name == "runtime.NumGoroutine") = false := by kernel_rfl
theorem ans2_z : loops (bodyOf Try.f41) = 0 := by kernel_rfl
def E_ans2_8 : Env := E_count1.ext 41 false false (mkInline Try.prog E_count1 {} Try.f41)
theorem E_ans2_8_ok : EnvOK Try.prog E_ans2_8 := Env.ext_ok E_count1_ok (inline_spec E_count1_ok Try.func41 ans2_b ans2_n ans2_z) (by simp) (by simp)
-- (archipelago/say.classes).count
abbrev count2_h : Hints := { loop := fun n => match n with | 0 => loopBy 0 22 count2_i0 count2_o0 count2_s0 | _ => fun _ _ _ => none }
theorem count2_s0_ok : ∀ v, count2_s0 v = roundOf Try.prog E_ans2_8 count2_h 1 0 22 (loopOf Try.f39 0) count2_i0 count2_o0 v := by
  rintro ⟨a0, a1, a2, a3, ⟨⟩⟩
  kernel_rfl
theorem count2_q0 : loopList (loopOf Try.f39 0) 1 = [] := by kernel_rfl
theorem count2_l0 : CodeOK Try.prog 0 (.loop (loopOf Try.f39 0)) (count2_h.loop 0) := loop_ok E_ans2_8_ok (count2_s0_ok) (LoopsOK_of count2_q0 trivial)
theorem count2_okd : ∀ v, count2_d v = pevCall Try.prog E_ans2_8 count2_h Try.f39 count2_i count2_o count2_r v := by
  rintro ⟨a0, ⟨⟩⟩
  kernel_rfl
theorem count2_q : loopList (bodyOf Try.f39) 0 = [(0, loopOf Try.f39 0)] := by kernel_rfl
theorem count2_spec : SpecOK Try.prog 39 (mkCall 2 count2_i count2_o count2_r count2) := call_spec E_ans2_8_ok Try.func39 (by kernel_rfl) (by kernel_rfl) rfl (fun v => (count2_eq v).trans (count2_okd v)) (LoopsOK_of count2_q ⟨count2_l0, trivial⟩)
def E_count2 : Env := E_ans2_8.extC 39 1 41 (mkCall 2 count2_i count2_o count2_r count2)
theorem E_count2_ok : EnvOK Try.prog E_count2 := Env.extC_ok E_ans2_8_ok count2_spec (mkCall_in rfl rfl)
-- (archipelago/say.classes).answer
abbrev canswer_h : Hints := { fp := fun n => match n with | 5 => [[0], [2], [2], [], [], [0], [2], [2], [], [], [], []] | _ => [] }
theorem canswer_okd : ∀ v, canswer_d v = pevCall Try.prog E_count2 canswer_h Try.f21 canswer_i canswer_o canswer_r v := by
  rintro ⟨a0, a1, ⟨⟩⟩
  kernel_rfl
theorem canswer_q : loopList (bodyOf Try.f21) 0 = [] := by kernel_rfl
theorem canswer_spec : SpecOK Try.prog 21 (mkCall 2 canswer_i canswer_o canswer_r canswer) := call_spec E_count2_ok Try.func21 (by kernel_rfl) (by kernel_rfl) rfl (fun v => (canswer_eq v).trans (canswer_okd v)) (LoopsOK_of canswer_q trivial)
def E_canswer : Env := E_count2.ext 21 true true (mkCall 2 canswer_i canswer_o canswer_r canswer)
theorem E_canswer_ok : EnvOK Try.prog E_canswer := Env.ext_ok E_count2_ok canswer_spec (fun _ => mkCall_local rfl rfl) (fun _ => mkCall_in rfl rfl)
-- archipelago/say.Answers
abbrev sanswers_h : Hints := { loop := fun n => match n with | 0 => loopBy 0 41 sanswers_i0 sanswers_o0 sanswers_s0 | _ => fun _ _ _ => none }
theorem sanswers_s0_ok : ∀ v, sanswers_s0 v = roundOf Try.prog E_canswer sanswers_h 1 0 41 (loopOf Try.f8 0) sanswers_i0 sanswers_o0 v := by
  rintro ⟨a0, a1, a2, a3, a4, ⟨⟩⟩
  kernel_rfl
theorem sanswers_q0 : loopList (loopOf Try.f8 0) 1 = [] := by kernel_rfl
theorem sanswers_l0 : CodeOK Try.prog 0 (.loop (loopOf Try.f8 0)) (sanswers_h.loop 0) := loop_ok E_canswer_ok (sanswers_s0_ok) (LoopsOK_of sanswers_q0 trivial)
theorem sanswers_okd : ∀ v, sanswers_d v = pevCall Try.prog E_canswer sanswers_h Try.f8 sanswers_i sanswers_o sanswers_r v := by
  rintro ⟨a0, a1, ⟨⟩⟩
  kernel_rfl
theorem sanswers_q : loopList (bodyOf Try.f8) 0 = [(0, loopOf Try.f8 0)] := by kernel_rfl
theorem sanswers_spec : SpecOK Try.prog 8 (mkCall 2 sanswers_i sanswers_o sanswers_r sanswers) := call_spec E_canswer_ok Try.func8 (by kernel_rfl) (by kernel_rfl) rfl (fun v => (sanswers_eq v).trans (sanswers_okd v)) (LoopsOK_of sanswers_q ⟨sanswers_l0, trivial⟩)
def E_sanswers : Env := E_canswer.ext 8 true true (mkCall 2 sanswers_i sanswers_o sanswers_r sanswers)
theorem E_sanswers_ok : EnvOK Try.prog E_sanswers := Env.ext_ok E_canswer_ok sanswers_spec (fun _ => mkCall_local rfl rfl) (fun _ => mkCall_in rfl rfl)
-- archipelago/say.Answer
abbrev sanswer_h : Hints := {  }
theorem sanswer_okd : ∀ v, sanswer_d v = pevCall Try.prog E_sanswers sanswer_h Try.f10 sanswer_i sanswer_o sanswer_r v := by
  rintro ⟨a0, a1, ⟨⟩⟩
  kernel_rfl
theorem sanswer_q : loopList (bodyOf Try.f10) 0 = [] := by kernel_rfl
theorem sanswer_spec : SpecOK Try.prog 10 (mkCall 2 sanswer_i sanswer_o sanswer_r sanswer) := call_spec E_sanswers_ok Try.func10 (by kernel_rfl) (by kernel_rfl) rfl (fun v => (sanswer_eq v).trans (sanswer_okd v)) (LoopsOK_of sanswer_q trivial)
def E_sanswer : Env := E_sanswers.ext 10 true true (mkCall 2 sanswer_i sanswer_o sanswer_r sanswer)
theorem E_sanswer_ok : EnvOK Try.prog E_sanswer := Env.ext_ok E_sanswers_ok sanswer_spec (fun _ => mkCall_local rfl rfl) (fun _ => mkCall_in rfl rfl)
-- archipelago/wire.Number
abbrev wnumber_h : Hints := { fp := fun n => match n with | 3 => [[], [], [], [], [], [], [], [], [], [], [], [], [], [], []] | _ => [] }
theorem wnumber_okd : ∀ v, wnumber_d v = pevCall Try.prog E_sanswer wnumber_h Try.f31 wnumber_i wnumber_o wnumber_r v := by
  rintro ⟨a0, a1, ⟨⟩⟩
  kernel_rfl
theorem wnumber_q : loopList (bodyOf Try.f31) 0 = [] := by kernel_rfl
theorem wnumber_spec : SpecOK Try.prog 31 (mkCall 2 wnumber_i wnumber_o wnumber_r wnumber) := call_spec E_sanswer_ok Try.func31 (by kernel_rfl) (by kernel_rfl) rfl (fun v => (wnumber_eq v).trans (wnumber_okd v)) (LoopsOK_of wnumber_q trivial)
def E_wnumber : Env := E_sanswer.ext 31 true true (mkCall 2 wnumber_i wnumber_o wnumber_r wnumber)
theorem E_wnumber_ok : EnvOK Try.prog E_wnumber := Env.ext_ok E_sanswer_ok wnumber_spec (fun _ => mkCall_local rfl rfl) (fun _ => mkCall_in rfl rfl)
-- archipelago/say.Decode
abbrev sdecode_h : Hints := { loop := fun n => match n with | 0 => loopBy 0 63 sdecode_i0 sdecode_o0 sdecode_s0 | _ => fun _ _ _ => none }
theorem sdecode_s0_ok : ∀ v, sdecode_s0 v = roundOf Try.prog E_wnumber sdecode_h 1 0 63 (loopOf Try.f15 0) sdecode_i0 sdecode_o0 v := by
  rintro ⟨a0, a1, a2, a3, a4, a5, a6, a7, a8, ⟨⟩⟩
  kernel_rfl
theorem sdecode_q0 : loopList (loopOf Try.f15 0) 1 = [] := by kernel_rfl
theorem sdecode_l0 : CodeOK Try.prog 0 (.loop (loopOf Try.f15 0)) (sdecode_h.loop 0) := loop_ok E_wnumber_ok (sdecode_s0_ok) (LoopsOK_of sdecode_q0 trivial)
theorem sdecode_okd : ∀ v, sdecode_d v = pevCall Try.prog E_wnumber sdecode_h Try.f15 sdecode_i sdecode_o sdecode_r v := by
  rintro ⟨a0, ⟨⟩⟩
  kernel_rfl
theorem sdecode_q : loopList (bodyOf Try.f15) 0 = [(0, loopOf Try.f15 0)] := by kernel_rfl
theorem sdecode_spec : SpecOK Try.prog 15 (mkCall 1 sdecode_i sdecode_o sdecode_r sdecode) := call_spec E_wnumber_ok Try.func15 (by kernel_rfl) (by kernel_rfl) rfl (fun v => (sdecode_eq v).trans (sdecode_okd v)) (LoopsOK_of sdecode_q ⟨sdecode_l0, trivial⟩)
def E_sdecode : Env := E_wnumber.ext 15 true true (mkCall 1 sdecode_i sdecode_o sdecode_r sdecode)
theorem E_sdecode_ok : EnvOK Try.prog E_sdecode := Env.ext_ok E_wnumber_ok sdecode_spec (fun _ => mkCall_local rfl rfl) (fun _ => mkCall_in rfl rfl)
-- slices.Equal[[]int,int]
abbrev equalI_h : Hints := { loop := fun n => match n with | 0 => loopBy 0 26 equalI_i0 equalI_o0 equalI_s0 | _ => fun _ _ _ => none, fp := fun n => match n with | 6 => [[], [], [], [], [], [], [], [], []] | _ => [] }
theorem equalI_s0_ok : ∀ v, equalI_s0 v = roundOf Try.prog E_sdecode equalI_h 1 0 26 (loopOf Try.f33 0) equalI_i0 equalI_o0 v := by
  rintro ⟨a0, a1, a2, a3, ⟨⟩⟩
  kernel_rfl
theorem equalI_q0 : loopList (loopOf Try.f33 0) 1 = [] := by kernel_rfl
theorem equalI_l0 : CodeOK Try.prog 0 (.loop (loopOf Try.f33 0)) (equalI_h.loop 0) := loop_ok E_sdecode_ok (equalI_s0_ok) (LoopsOK_of equalI_q0 trivial)
theorem equalI_okd : ∀ v, equalI_d v = pevCall Try.prog E_sdecode equalI_h Try.f33 equalI_i equalI_o equalI_r v := by
  rintro ⟨a0, a1, ⟨⟩⟩
  kernel_rfl
theorem equalI_q : loopList (bodyOf Try.f33) 0 = [(0, loopOf Try.f33 0)] := by kernel_rfl
theorem equalI_spec : SpecOK Try.prog 33 (mkCall 2 equalI_i equalI_o equalI_r equalI) := call_spec E_sdecode_ok Try.func33 (by kernel_rfl) (by kernel_rfl) rfl (fun v => (equalI_eq v).trans (equalI_okd v)) (LoopsOK_of equalI_q ⟨equalI_l0, trivial⟩)
def E_equalI : Env := E_sdecode.ext 33 true true (mkCall 2 equalI_i equalI_o equalI_r equalI)
theorem E_equalI_ok : EnvOK Try.prog E_equalI := Env.ext_ok E_sdecode_ok equalI_spec (fun _ => mkCall_local rfl rfl) (fun _ => mkCall_in rfl rfl)
-- archipelago/say.Same
abbrev ssame_h : Hints := {  }
theorem ssame_okd : ∀ v, ssame_d v = pevCall Try.prog E_equalI ssame_h Try.f18 ssame_i ssame_o ssame_r v := by
  rintro ⟨a0, a1, ⟨⟩⟩
  kernel_rfl
theorem ssame_q : loopList (bodyOf Try.f18) 0 = [] := by kernel_rfl
theorem ssame_spec : SpecOK Try.prog 18 (mkCall 2 ssame_i ssame_o ssame_r ssame) := call_spec E_equalI_ok Try.func18 (by kernel_rfl) (by kernel_rfl) rfl (fun v => (ssame_eq v).trans (ssame_okd v)) (LoopsOK_of ssame_q trivial)
def E_ssame : Env := E_equalI.ext 18 true true (mkCall 2 ssame_i ssame_o ssame_r ssame)
theorem E_ssame_ok : EnvOK Try.prog E_ssame := Env.ext_ok E_equalI_ok ssame_spec (fun _ => mkCall_local rfl rfl) (fun _ => mkCall_in rfl rfl)
-- archipelago/archipelagoref27.short
abbrev short27_h : Hints := {  }
theorem short27_okd : ∀ v, short27_d v = pevCall Try.prog E_ssame short27_h Try.f29 short27_i short27_o short27_r v := by
  rintro ⟨a0, ⟨⟩⟩
  kernel_rfl
theorem short27_q : loopList (bodyOf Try.f29) 0 = [] := by kernel_rfl
theorem short27_spec : SpecOK Try.prog 29 (mkCall 1 short27_i short27_o short27_r short27) := call_spec E_ssame_ok Try.func29 (by kernel_rfl) (by kernel_rfl) rfl (fun v => (short27_eq v).trans (short27_okd v)) (LoopsOK_of short27_q trivial)
def E_short27 : Env := E_ssame.ext 29 true true (mkCall 1 short27_i short27_o short27_r short27)
theorem E_short27_ok : EnvOK Try.prog E_short27 := Env.ext_ok E_ssame_ok short27_spec (fun _ => mkCall_local rfl rfl) (fun _ => mkCall_in rfl rfl)
-- archipelago/archipelagoref27.two
abbrev two27_h : Hints := {  }
theorem two27_okd : ∀ v, two27_d v = pevCall Try.prog E_short27 two27_h Try.f30 two27_i two27_o two27_r v := by
  rintro ⟨a0, ⟨⟩⟩
  kernel_rfl
theorem two27_q : loopList (bodyOf Try.f30) 0 = [] := by kernel_rfl
theorem two27_spec : SpecOK Try.prog 30 (mkCall 1 two27_i two27_o two27_r two27) := call_spec E_short27_ok Try.func30 (by kernel_rfl) (by kernel_rfl) rfl (fun v => (two27_eq v).trans (two27_okd v)) (LoopsOK_of two27_q trivial)
def E_two27 : Env := E_short27.ext 30 true true (mkCall 1 two27_i two27_o two27_r two27)
theorem E_two27_ok : EnvOK Try.prog E_two27 := Env.ext_ok E_short27_ok two27_spec (fun _ => mkCall_local rfl rfl) (fun _ => mkCall_in rfl rfl)
end
end Go.Pev
end
section
namespace Go.Pev
open Go.Proofs
set_option maxRecDepth 100000
noncomputable section
-- archipelago/archipelagoref27.Encode
abbrev encode27_h : Hints := { loop := fun n => match n with | 0 => loopBy 0 63 encode27_i0 encode27_o0 encode27_s0 | _ => fun _ _ _ => none, fp := fun n => match n with | 3 => [[0], [0], [], [], [0], [0], [], [19, 20], [0], [0], [], [], [29, 30], []] | _ => [] }
theorem encode27_s0_ok : ∀ v, encode27_s0 v = roundOf Try.prog E_two27 encode27_h 1 0 63 (loopOf Try.f14 0) encode27_i0 encode27_o0 v := by
  rintro ⟨a0, a1, a2, a3, a4, ⟨⟩⟩
  kernel_rfl
theorem encode27_q0 : loopList (loopOf Try.f14 0) 1 = [] := by kernel_rfl
theorem encode27_l0 : CodeOK Try.prog 0 (.loop (loopOf Try.f14 0)) (encode27_h.loop 0) := loop_ok E_two27_ok (encode27_s0_ok) (LoopsOK_of encode27_q0 trivial)
theorem encode27_okd : ∀ v, encode27_d v = pevCall Try.prog E_two27 encode27_h Try.f14 encode27_i encode27_o encode27_r v := by
  rintro ⟨a0, ⟨⟩⟩
  kernel_rfl
theorem encode27_q : loopList (bodyOf Try.f14) 0 = [(0, loopOf Try.f14 0)] := by kernel_rfl
theorem encode27_spec : SpecOK Try.prog 14 (mkCall 1 encode27_i encode27_o encode27_r encode27) := call_spec E_two27_ok Try.func14 (by kernel_rfl) (by kernel_rfl) rfl (fun v => (encode27_eq v).trans (encode27_okd v)) (LoopsOK_of encode27_q ⟨encode27_l0, trivial⟩)
def E_encode27 : Env := E_two27.ext 14 true true (mkCall 1 encode27_i encode27_o encode27_r encode27)
theorem E_encode27_ok : EnvOK Try.prog E_encode27 := Env.ext_ok E_two27_ok encode27_spec (fun _ => mkCall_local rfl rfl) (fun _ => mkCall_in rfl rfl)
-- archipelago/archipelagoref25.Number
abbrev number25_h : Hints := { fp := fun n => match n with | 3 => [[], [], [], [], [], [], [], [], [], [], [], [], [], [], []] | _ => [] }
theorem number25_okd : ∀ v, number25_d v = pevCall Try.prog E_encode27 number25_h Try.f32 number25_i number25_o number25_r v := by
  rintro ⟨a0, a1, ⟨⟩⟩
  kernel_rfl
theorem number25_q : loopList (bodyOf Try.f32) 0 = [] := by kernel_rfl
theorem number25_spec : SpecOK Try.prog 32 (mkCall 2 number25_i number25_o number25_r number25) := call_spec E_encode27_ok Try.func32 (by kernel_rfl) (by kernel_rfl) rfl (fun v => (number25_eq v).trans (number25_okd v)) (LoopsOK_of number25_q trivial)
def E_number25 : Env := E_encode27.ext 32 true true (mkCall 2 number25_i number25_o number25_r number25)
theorem E_number25_ok : EnvOK Try.prog E_number25 := Env.ext_ok E_encode27_ok number25_spec (fun _ => mkCall_local rfl rfl) (fun _ => mkCall_in rfl rfl)
-- archipelago/archipelagoref27.Decode
abbrev decode27_h : Hints := { loop := fun n => match n with | 0 => loopBy 0 65 decode27_i0 decode27_o0 decode27_s0 | _ => fun _ _ _ => none }
theorem decode27_s0_ok : ∀ v, decode27_s0 v = roundOf Try.prog E_number25 decode27_h 1 0 65 (loopOf Try.f16 0) decode27_i0 decode27_o0 v := by
  rintro ⟨a0, a1, a2, a3, a4, a5, a6, a7, ⟨⟩⟩
  kernel_rfl
theorem decode27_q0 : loopList (loopOf Try.f16 0) 1 = [] := by kernel_rfl
theorem decode27_l0 : CodeOK Try.prog 0 (.loop (loopOf Try.f16 0)) (decode27_h.loop 0) := loop_ok E_number25_ok (decode27_s0_ok) (LoopsOK_of decode27_q0 trivial)
theorem decode27_okd : ∀ v, decode27_d v = pevCall Try.prog E_number25 decode27_h Try.f16 decode27_i decode27_o decode27_r v := by
  rintro ⟨a0, ⟨⟩⟩
  kernel_rfl
theorem decode27_q : loopList (bodyOf Try.f16) 0 = [(0, loopOf Try.f16 0)] := by kernel_rfl
theorem decode27_spec : SpecOK Try.prog 16 (mkCall 1 decode27_i decode27_o decode27_r decode27) := call_spec E_number25_ok Try.func16 (by kernel_rfl) (by kernel_rfl) rfl (fun v => (decode27_eq v).trans (decode27_okd v)) (LoopsOK_of decode27_q ⟨decode27_l0, trivial⟩)
def E_decode27 : Env := E_number25.ext 16 true true (mkCall 1 decode27_i decode27_o decode27_r decode27)
theorem E_decode27_ok : EnvOK Try.prog E_decode27 := Env.ext_ok E_number25_ok decode27_spec (fun _ => mkCall_local rfl rfl) (fun _ => mkCall_in rfl rfl)
-- archipelago/archipelagoref27.Same
abbrev same27_h : Hints := {  }
theorem same27_okd : ∀ v, same27_d v = pevCall Try.prog E_decode27 same27_h Try.f17 same27_i same27_o same27_r v := by
  rintro ⟨a0, a1, ⟨⟩⟩
  kernel_rfl
theorem same27_q : loopList (bodyOf Try.f17) 0 = [] := by kernel_rfl
theorem same27_spec : SpecOK Try.prog 17 (mkCall 2 same27_i same27_o same27_r same27) := call_spec E_decode27_ok Try.func17 (by kernel_rfl) (by kernel_rfl) rfl (fun v => (same27_eq v).trans (same27_okd v)) (LoopsOK_of same27_q trivial)
def E_same27 : Env := E_decode27.ext 17 true true (mkCall 2 same27_i same27_o same27_r same27)
theorem E_same27_ok : EnvOK Try.prog E_same27 := Env.ext_ok E_decode27_ok same27_spec (fun _ => mkCall_local rfl rfl) (fun _ => mkCall_in rfl rfl)
-- archipelago/archipelagoref19.Classes
abbrev classes19_h : Hints := { loop := fun n => match n with | 0 => loopBy 0 83 classes19_i0 classes19_o0 classes19_s0 | 1 => loopBy 0 83 classes19_i1 classes19_o1 classes19_s1 | 2 => loopBy 0 83 classes19_i2 classes19_o2 classes19_s2 | _ => fun _ _ _ => none, fp := fun n => match n with | 14 => [[], [], [0], [0], [], [], [0], [0], [], []] | 13 => [[], [], [], [], [], [], [], [], [], [], [], [], [], [], [], [], [], [], [], [0], [0], [], [], [0], [0], [], []] | 12 => [[], [], [], [], [], [], [], [], [], [], [], []] | _ => [] }
theorem classes19_s2_ok : ∀ v, classes19_s2 v = roundOf Try.prog E_same27 classes19_h 3 0 83 (loopOf Try.f23 2) classes19_i2 classes19_o2 v := by
  rintro ⟨a0, a1, a2, a3, a4, ⟨⟩⟩
  kernel_rfl
theorem classes19_q2 : loopList (loopOf Try.f23 2) 3 = [] := by kernel_rfl
theorem classes19_l2 : CodeOK Try.prog 0 (.loop (loopOf Try.f23 2)) (classes19_h.loop 2) := loop_ok E_same27_ok (classes19_s2_ok) (LoopsOK_of classes19_q2 trivial)
theorem classes19_s1_ok : ∀ v, classes19_s1 v = roundOf Try.prog E_same27 classes19_h 2 0 83 (loopOf Try.f23 1) classes19_i1 classes19_o1 v := by
  rintro ⟨a0, a1, a2, a3, ⟨⟩⟩
  kernel_rfl
theorem classes19_q1 : loopList (loopOf Try.f23 1) 2 = [(2, loopOf Try.f23 2)] := by kernel_rfl
theorem classes19_l1 : CodeOK Try.prog 0 (.loop (loopOf Try.f23 1)) (classes19_h.loop 1) := loop_ok E_same27_ok (classes19_s1_ok) (LoopsOK_of classes19_q1 ⟨classes19_l2, trivial⟩)
theorem classes19_s0_ok : ∀ v, classes19_s0 v = roundOf Try.prog E_same27 classes19_h 1 0 83 (loopOf Try.f23 0) classes19_i0 classes19_o0 v := by
  rintro ⟨a0, a1, a2, a3, ⟨⟩⟩
  kernel_rfl
theorem classes19_q0 : loopList (loopOf Try.f23 0) 1 = [] := by kernel_rfl
theorem classes19_l0 : CodeOK Try.prog 0 (.loop (loopOf Try.f23 0)) (classes19_h.loop 0) := loop_ok E_same27_ok (classes19_s0_ok) (LoopsOK_of classes19_q0 trivial)
theorem classes19_okd : ∀ v, classes19_d v = pevCall Try.prog E_same27 classes19_h Try.f23 classes19_i classes19_o classes19_r v := by
  rintro ⟨a0, a1, ⟨⟩⟩
  kernel_rfl
theorem classes19_q : loopList (bodyOf Try.f23) 0 = [(0, loopOf Try.f23 0), (1, loopOf Try.f23 1)] := by kernel_rfl
theorem classes19_spec : SpecOK Try.prog 23 (mkCall 2 classes19_i classes19_o classes19_r classes19) := call_spec E_same27_ok Try.func23 (by kernel_rfl) (by kernel_rfl) rfl (fun v => (classes19_eq v).trans (classes19_okd v)) (LoopsOK_of classes19_q ⟨classes19_l0, classes19_l1, trivial⟩)
def E_classes19 : Env := E_same27.ext 23 true true (mkCall 2 classes19_i classes19_o classes19_r classes19)
theorem E_classes19_ok : EnvOK Try.prog E_classes19 := Env.ext_ok E_same27_ok classes19_spec (fun _ => mkCall_local rfl rfl) (fun _ => mkCall_in rfl rfl)
-- archipelago/archipelagoref21.Top
abbrev top21_h : Hints := { loop := fun n => match n with | 0 => loopBy 0 20 top21_i0 top21_o0 top21_s0 | _ => fun _ _ _ => none }
theorem top21_s0_ok : ∀ v, top21_s0 v = roundOf Try.prog E_classes19 top21_h 1 0 20 (loopOf Try.f34 0) top21_i0 top21_o0 v := by
  rintro ⟨a0, a1, ⟨⟩⟩
  kernel_rfl
theorem top21_q0 : loopList (loopOf Try.f34 0) 1 = [] := by kernel_rfl
theorem top21_l0 : CodeOK Try.prog 0 (.loop (loopOf Try.f34 0)) (top21_h.loop 0) := loop_ok E_classes19_ok (top21_s0_ok) (LoopsOK_of top21_q0 trivial)
theorem top21_okd : ∀ v, top21_d v = pevCall Try.prog E_classes19 top21_h Try.f34 top21_i top21_o top21_r v := by
  rintro ⟨a0, ⟨⟩⟩
  kernel_rfl
theorem top21_q : loopList (bodyOf Try.f34) 0 = [(0, loopOf Try.f34 0)] := by kernel_rfl
theorem top21_spec : SpecOK Try.prog 34 (mkCall 1 top21_i top21_o top21_r top21) := call_spec E_classes19_ok Try.func34 (by kernel_rfl) (by kernel_rfl) rfl (fun v => (top21_eq v).trans (top21_okd v)) (LoopsOK_of top21_q ⟨top21_l0, trivial⟩)
def E_top21 : Env := E_classes19.ext 34 true true (mkCall 1 top21_i top21_o top21_r top21)
theorem E_top21_ok : EnvOK Try.prog E_top21 := Env.ext_ok E_classes19_ok top21_spec (fun _ => mkCall_local rfl rfl) (fun _ => mkCall_in rfl rfl)
-- archipelago/archipelagoref21.Right
abbrev right21_h : Hints := { loop := fun n => match n with | 0 => loopBy 0 138 right21_i0 right21_o0 right21_s0 | 1 => loopBy 0 138 right21_i1 right21_o1 right21_s1 | _ => fun _ _ _ => none, fp := fun n => match n with | 10 => [[], [], [], [0], [0], [], [], [], [], [], [4], [4], [], [], [0], [0], [], [], [], [], [], [4], [4], [], [], [0], [0], [], [], [], [], [], [4], [4], [], [], [], []] | 8 => [[4], [4], [], [], [4], [4], [4], [4], [], [], [], [4], [4], [0], [0], [], [], [], [4], [4], [], [], [], [4], [4], [0], [0], [], [], []] | _ => [] }
theorem right21_s1_ok : ∀ v, right21_s1 v = roundOf Try.prog E_top21 right21_h 2 0 138 (loopOf Try.f19 1) right21_i1 right21_o1 v := by
  rintro ⟨a0, a1, a2, a3, a4, a5, ⟨⟩⟩
  kernel_rfl
theorem right21_q1 : loopList (loopOf Try.f19 1) 2 = [] := by kernel_rfl
theorem right21_l1 : CodeOK Try.prog 0 (.loop (loopOf Try.f19 1)) (right21_h.loop 1) := loop_ok E_top21_ok (right21_s1_ok) (LoopsOK_of right21_q1 trivial)
theorem right21_s0_ok : ∀ v, right21_s0 v = roundOf Try.prog E_top21 right21_h 1 0 138 (loopOf Try.f19 0) right21_i0 right21_o0 v := by
  rintro ⟨a0, a1, a2, a3, ⟨⟩⟩
  kernel_rfl
theorem right21_q0 : loopList (loopOf Try.f19 0) 1 = [] := by kernel_rfl
theorem right21_l0 : CodeOK Try.prog 0 (.loop (loopOf Try.f19 0)) (right21_h.loop 0) := loop_ok E_top21_ok (right21_s0_ok) (LoopsOK_of right21_q0 trivial)
theorem right21_okd : ∀ v, right21_d v = pevCall Try.prog E_top21 right21_h Try.f19 right21_i right21_o right21_r v := by
  rintro ⟨a0, ⟨⟩⟩
  kernel_rfl
theorem right21_q : loopList (bodyOf Try.f19) 0 = [(0, loopOf Try.f19 0), (1, loopOf Try.f19 1)] := by kernel_rfl
theorem right21_spec : SpecOK Try.prog 19 (mkCall 1 right21_i right21_o right21_r right21) := call_spec E_top21_ok Try.func19 (by kernel_rfl) (by kernel_rfl) rfl (fun v => (right21_eq v).trans (right21_okd v)) (LoopsOK_of right21_q ⟨right21_l0, right21_l1, trivial⟩)
def E_right21 : Env := E_top21.ext 19 true true (mkCall 1 right21_i right21_o right21_r right21)
theorem E_right21_ok : EnvOK Try.prog E_right21 := Env.ext_ok E_top21_ok right21_spec (fun _ => mkCall_local rfl rfl) (fun _ => mkCall_in rfl rfl)
-- archipelago/archipelagoref21.Edges
abbrev edges21_h : Hints := { loop := fun n => match n with | 0 => loopBy 0 32 edges21_i0 edges21_o0 edges21_s0 | _ => fun _ _ _ => none, fp := fun n => match n with | 7 => [[], [0], [0], [], [], [], [], [0], [0], [], [], [], [], [], [], [3, 4], []] | _ => [] }
theorem edges21_s0_ok : ∀ v, edges21_s0 v = roundOf Try.prog E_right21 edges21_h 1 0 32 (loopOf Try.f24 0) edges21_i0 edges21_o0 v := by
  rintro ⟨a0, a1, a2, a3, ⟨⟩⟩
  kernel_rfl
theorem edges21_q0 : loopList (loopOf Try.f24 0) 1 = [] := by kernel_rfl
theorem edges21_l0 : CodeOK Try.prog 0 (.loop (loopOf Try.f24 0)) (edges21_h.loop 0) := loop_ok E_right21_ok (edges21_s0_ok) (LoopsOK_of edges21_q0 trivial)
theorem edges21_okd : ∀ v, edges21_d v = pevCall Try.prog E_right21 edges21_h Try.f24 edges21_i edges21_o edges21_r v := by
  rintro ⟨a0, ⟨⟩⟩
  kernel_rfl
theorem edges21_q : loopList (bodyOf Try.f24) 0 = [(0, loopOf Try.f24 0)] := by kernel_rfl
theorem edges21_spec : SpecOK Try.prog 24 (mkCall 1 edges21_i edges21_o edges21_r edges21) := call_spec E_right21_ok Try.func24 (by kernel_rfl) (by kernel_rfl) rfl (fun v => (edges21_eq v).trans (edges21_okd v)) (LoopsOK_of edges21_q ⟨edges21_l0, trivial⟩)
def E_edges21 : Env := E_right21.ext 24 true true (mkCall 1 edges21_i edges21_o edges21_r edges21)
theorem E_edges21_ok : EnvOK Try.prog E_edges21 := Env.ext_ok E_right21_ok edges21_spec (fun _ => mkCall_local rfl rfl) (fun _ => mkCall_in rfl rfl)
-- archipelago/archipelagoref26.Vertices
abbrev vertices26_h : Hints := { loop := fun n => match n with | 0 => loopBy 0 63 vertices26_i0 vertices26_o0 vertices26_s0 | 1 => loopBy 0 63 vertices26_i1 vertices26_o1 vertices26_s1 | _ => fun _ _ _ => none, fp := fun n => match n with | 5 => [[], [0], [0], [], [], [], [], [0], [0], [], [], [], [], [], [3, 4], []] | _ => [] }
theorem vertices26_s1_ok : ∀ v, vertices26_s1 v = roundOf Try.prog E_edges21 vertices26_h 2 0 63 (loopOf Try.f22 1) vertices26_i1 vertices26_o1 v := by
  rintro ⟨a0, a1, a2, a3, a4, ⟨⟩⟩
  kernel_rfl
theorem vertices26_q1 : loopList (loopOf Try.f22 1) 2 = [] := by kernel_rfl
theorem vertices26_l1 : CodeOK Try.prog 0 (.loop (loopOf Try.f22 1)) (vertices26_h.loop 1) := loop_ok E_edges21_ok (vertices26_s1_ok) (LoopsOK_of vertices26_q1 trivial)
theorem vertices26_s0_ok : ∀ v, vertices26_s0 v = roundOf Try.prog E_edges21 vertices26_h 1 0 63 (loopOf Try.f22 0) vertices26_i0 vertices26_o0 v := by
  rintro ⟨a0, a1, a2, a3, a4, ⟨⟩⟩
  kernel_rfl
theorem vertices26_q0 : loopList (loopOf Try.f22 0) 1 = [] := by kernel_rfl
theorem vertices26_l0 : CodeOK Try.prog 0 (.loop (loopOf Try.f22 0)) (vertices26_h.loop 0) := loop_ok E_edges21_ok (vertices26_s0_ok) (LoopsOK_of vertices26_q0 trivial)
theorem vertices26_okd : ∀ v, vertices26_d v = pevCall Try.prog E_edges21 vertices26_h Try.f22 vertices26_i vertices26_o vertices26_r v := by
  rintro ⟨a0, ⟨⟩⟩
  kernel_rfl
theorem vertices26_q : loopList (bodyOf Try.f22) 0 = [(0, loopOf Try.f22 0), (1, loopOf Try.f22 1)] := by kernel_rfl
theorem vertices26_spec : SpecOK Try.prog 22 (mkCall 1 vertices26_i vertices26_o vertices26_r vertices26) := call_spec E_edges21_ok Try.func22 (by kernel_rfl) (by kernel_rfl) rfl (fun v => (vertices26_eq v).trans (vertices26_okd v)) (LoopsOK_of vertices26_q ⟨vertices26_l0, vertices26_l1, trivial⟩)
def E_vertices26 : Env := E_edges21.ext 22 true true (mkCall 1 vertices26_i vertices26_o vertices26_r vertices26)
theorem E_vertices26_ok : EnvOK Try.prog E_vertices26 := Env.ext_ok E_edges21_ok vertices26_spec (fun _ => mkCall_local rfl rfl) (fun _ => mkCall_in rfl rfl)
-- archipelago/archipelagoref27.Answer
abbrev answer27_h : Hints := { loop := fun n => match n with | 0 => loopBy 0 116 answer27_i0 answer27_o0 answer27_s0 | 1 => loopBy 0 116 answer27_i1 answer27_o1 answer27_s1 | _ => fun _ _ _ => none, fp := fun n => match n with | 7 => [[], [], [4], [4], [], [], [], [], [4], [4], [0], [0], [], []] | 14 => [[2], [2], [], [], [], [], [4], [4], [], [], [], [], [2], [2], [], [], [], [], [4], [4], [], [2], [2], [4], [4], [], [], []] | 16 => [[0], [0], [], [], [], [0], [0], [2], [2], [], [0], [0], [2], [2], [], [], []] | 9 => [[0], [0], [0], [], [4], []] | _ => [] }
theorem answer27_s1_ok : ∀ v, answer27_s1 v = roundOf Try.prog E_vertices26 answer27_h 2 0 116 (loopOf Try.f11 1) answer27_i1 answer27_o1 v := by
  rintro ⟨a0, a1, a2, a3, a4, a5, a6, a7, ⟨⟩⟩
  kernel_rfl
theorem answer27_q1 : loopList (loopOf Try.f11 1) 2 = [] := by kernel_rfl
theorem answer27_l1 : CodeOK Try.prog 0 (.loop (loopOf Try.f11 1)) (answer27_h.loop 1) := loop_ok E_vertices26_ok (answer27_s1_ok) (LoopsOK_of answer27_q1 trivial)
theorem answer27_s0_ok : ∀ v, answer27_s0 v = roundOf Try.prog E_vertices26 answer27_h 1 0 116 (loopOf Try.f11 0) answer27_i0 answer27_o0 v := by
  rintro ⟨a0, a1, a2, a3, a4, a5, a6, ⟨⟩⟩
  kernel_rfl
theorem answer27_q0 : loopList (loopOf Try.f11 0) 1 = [] := by kernel_rfl
theorem answer27_l0 : CodeOK Try.prog 0 (.loop (loopOf Try.f11 0)) (answer27_h.loop 0) := loop_ok E_vertices26_ok (answer27_s0_ok) (LoopsOK_of answer27_q0 trivial)
theorem answer27_okd : ∀ v, answer27_d v = pevCall Try.prog E_vertices26 answer27_h Try.f11 answer27_i answer27_o answer27_r v := by
  rintro ⟨a0, a1, ⟨⟩⟩
  kernel_rfl
theorem answer27_q : loopList (bodyOf Try.f11) 0 = [(0, loopOf Try.f11 0), (1, loopOf Try.f11 1)] := by kernel_rfl
theorem answer27_spec : SpecOK Try.prog 11 (mkCall 2 answer27_i answer27_o answer27_r answer27) := call_spec E_vertices26_ok Try.func11 (by kernel_rfl) (by kernel_rfl) rfl (fun v => (answer27_eq v).trans (answer27_okd v)) (LoopsOK_of answer27_q ⟨answer27_l0, answer27_l1, trivial⟩)
def E_answer27 : Env := E_vertices26.ext 11 true true (mkCall 2 answer27_i answer27_o answer27_r answer27)
theorem E_answer27_ok : EnvOK Try.prog E_answer27 := Env.ext_ok E_vertices26_ok answer27_spec (fun _ => mkCall_local rfl rfl) (fun _ => mkCall_in rfl rfl)
-- archipelago/archipelagoref27.Answers
abbrev answers27_h : Hints := { loop := fun n => match n with | 0 => loopBy 0 36 answers27_i0 answers27_o0 answers27_s0 | _ => fun _ _ _ => none, fp := fun n => match n with | 7 => [[0], [], [], [], [], [], [], [], [], [], []] | _ => [] }
theorem answers27_s0_ok : ∀ v, answers27_s0 v = roundOf Try.prog E_answer27 answers27_h 1 0 36 (loopOf Try.f9 0) answers27_i0 answers27_o0 v := by
  rintro ⟨a0, a1, a2, a3, a4, ⟨⟩⟩
  kernel_rfl
theorem answers27_q0 : loopList (loopOf Try.f9 0) 1 = [] := by kernel_rfl
theorem answers27_l0 : CodeOK Try.prog 0 (.loop (loopOf Try.f9 0)) (answers27_h.loop 0) := loop_ok E_answer27_ok (answers27_s0_ok) (LoopsOK_of answers27_q0 trivial)
theorem answers27_okd : ∀ v, answers27_d v = pevCall Try.prog E_answer27 answers27_h Try.f9 answers27_i answers27_o answers27_r v := by
  rintro ⟨a0, a1, ⟨⟩⟩
  kernel_rfl
theorem answers27_q : loopList (bodyOf Try.f9) 0 = [(0, loopOf Try.f9 0)] := by kernel_rfl
theorem answers27_spec : SpecOK Try.prog 9 (mkCall 2 answers27_i answers27_o answers27_r answers27) := call_spec E_answer27_ok Try.func9 (by kernel_rfl) (by kernel_rfl) rfl (fun v => (answers27_eq v).trans (answers27_okd v)) (LoopsOK_of answers27_q ⟨answers27_l0, trivial⟩)
def E_answers27 : Env := E_answer27.ext 9 true true (mkCall 2 answers27_i answers27_o answers27_r answers27)
theorem E_answers27_ok : EnvOK Try.prog E_answers27 := Env.ext_ok E_answer27_ok answers27_spec (fun _ => mkCall_local rfl rfl) (fun _ => mkCall_in rfl rfl)
-- archipelago/archipelagolaw27.alive
abbrev alive27_h : Hints := {  }
def alive27_K : Env := { E_answers27 with keep := true }
theorem alive27_K_ok : EnvOK Try.prog alive27_K := E_answers27_ok
theorem alive27_okd : ∀ v, alive27_d v = pevCall Try.prog alive27_K alive27_h Try.f6 alive27_i alive27_o alive27_r v := by
  rintro ⟨⟨⟩⟩
  kernel_rfl
theorem alive27_q : loopList (bodyOf Try.f6) 0 = [] := by kernel_rfl
theorem alive27_spec : SpecOK Try.prog 6 (mkCall 0 alive27_i alive27_o alive27_r alive27) := call_spec alive27_K_ok Try.func6 (by kernel_rfl) (by kernel_rfl) rfl (fun v => (alive27_eq v).trans (alive27_okd v)) (LoopsOK_of alive27_q trivial)
def E_alive27 : Env := E_answers27.ext 6 true true (mkCall 0 alive27_i alive27_o alive27_r alive27)
theorem E_alive27_ok : EnvOK Try.prog E_alive27 := Env.ext_ok E_answers27_ok alive27_spec (fun _ => mkCall_local rfl rfl) (fun _ => mkCall_in rfl rfl)
end
end Go.Pev
end
section
namespace Go.Pev
open Go.Proofs
set_option maxRecDepth 100000
noncomputable section
-- archipelago/archipelagolaw27.SayAnswers
abbrev sayAnswers_h : Hints := { loop := fun n => match n with | 0 => loopBy 0 75 sayAnswers_i0 sayAnswers_o0 sayAnswers_s0 | _ => fun _ _ _ => none, fp := fun n => match n with | 11 => [[0], [], [], [], [], [], [], [], [], [], []] | 10 => [[0], [], [], [], [], [], [], [], [], [], []] | _ => [] }
theorem sayAnswers_s0_ok : ∀ v, sayAnswers_s0 v = roundOf Try.prog E_alive27 sayAnswers_h 1 0 75 (loopOf Try.f3 0) sayAnswers_i0 sayAnswers_o0 v := by
  rintro ⟨a0, a1, a2, a3, a4, a5, a6, a7, ⟨⟩⟩
  kernel_rfl
theorem sayAnswers_q0 : loopList (loopOf Try.f3 0) 1 = [] := by kernel_rfl
theorem sayAnswers_l0 : CodeOK Try.prog 0 (.loop (loopOf Try.f3 0)) (sayAnswers_h.loop 0) := loop_ok E_alive27_ok (sayAnswers_s0_ok) (LoopsOK_of sayAnswers_q0 trivial)
theorem sayAnswers_okd : ∀ v, sayAnswers_d v = pevCall Try.prog E_alive27 sayAnswers_h Try.f3 sayAnswers_i sayAnswers_o sayAnswers_r v := by
  rintro ⟨a0, a1, ⟨⟩⟩
  kernel_rfl
theorem sayAnswers_q : loopList (bodyOf Try.f3) 0 = [(0, loopOf Try.f3 0)] := by kernel_rfl
theorem sayAnswers_spec : SpecOK Try.prog 3 (mkCall 2 sayAnswers_i sayAnswers_o sayAnswers_r sayAnswers) := call_spec E_alive27_ok Try.func3 (by kernel_rfl) (by kernel_rfl) rfl (fun v => (sayAnswers_eq v).trans (sayAnswers_okd v)) (LoopsOK_of sayAnswers_q ⟨sayAnswers_l0, trivial⟩)
def E_sayAnswers : Env := E_alive27.ext 3 true true (mkCall 2 sayAnswers_i sayAnswers_o sayAnswers_r sayAnswers)
theorem E_sayAnswers_ok : EnvOK Try.prog E_sayAnswers := Env.ext_ok E_alive27_ok sayAnswers_spec (fun _ => mkCall_local rfl rfl) (fun _ => mkCall_in rfl rfl)
-- archipelago/archipelagolaw27.SayBytes
abbrev sayBytes_h : Hints := { fp := fun n => match n with | 18 => [[], [], [], [], [], [], [], [], [], [], [96, 72], [], [], [], [], [], [], []] | 9 => [[], [12], [], [20], [], [], [], [], [], [], [], [36], [46], [28, 38], [], [], [], [], [], [], [], [], [], [], [], [], [], [0], [2], [], [0], [2], [], [], []] | _ => [] }
theorem sayBytes_okd : ∀ v, sayBytes_d v = pevCall Try.prog E_sayAnswers sayBytes_h Try.f4 sayBytes_i sayBytes_o sayBytes_r v := by
  rintro ⟨a0, a1, a2, ⟨⟩⟩
  kernel_rfl
theorem sayBytes_q : loopList (bodyOf Try.f4) 0 = [] := by kernel_rfl
theorem sayBytes_spec : SpecOK Try.prog 4 (mkCall 3 sayBytes_i sayBytes_o sayBytes_r sayBytes) := call_spec E_sayAnswers_ok Try.func4 (by kernel_rfl) (by kernel_rfl) rfl (fun v => (sayBytes_eq v).trans (sayBytes_okd v)) (LoopsOK_of sayBytes_q trivial)
def E_sayBytes : Env := E_sayAnswers.ext 4 true true (mkCall 3 sayBytes_i sayBytes_o sayBytes_r sayBytes)
theorem E_sayBytes_ok : EnvOK Try.prog E_sayBytes := Env.ext_ok E_sayAnswers_ok sayBytes_spec (fun _ => mkCall_local rfl rfl) (fun _ => mkCall_in rfl rfl)
-- archipelago/archipelagolaw27.SayClasses
abbrev sayClasses_h : Hints := { loop := fun n => match n with | 0 => loopBy 0 153 sayClasses_i0 sayClasses_o0 sayClasses_s0 | _ => fun _ _ _ => none, fp := fun n => match n with | 5 => [[2], [2], [], [0], [0], [], [2], [2], [], [0], [0], [], [], []] | _ => [] }
theorem sayClasses_s0_ok : ∀ v, sayClasses_s0 v = roundOf Try.prog E_sayBytes sayClasses_h 1 0 153 (loopOf Try.f5 0) sayClasses_i0 sayClasses_o0 v := by
  rintro ⟨a0, a1, a2, a3, a4, a5, ⟨⟩⟩
  kernel_rfl
theorem sayClasses_q0 : loopList (loopOf Try.f5 0) 1 = [] := by kernel_rfl
theorem sayClasses_l0 : CodeOK Try.prog 0 (.loop (loopOf Try.f5 0)) (sayClasses_h.loop 0) := loop_ok E_sayBytes_ok (sayClasses_s0_ok) (LoopsOK_of sayClasses_q0 trivial)
theorem sayClasses_okd : ∀ v, sayClasses_d v = pevCall Try.prog E_sayBytes sayClasses_h Try.f5 sayClasses_i sayClasses_o sayClasses_r v := by
  rintro ⟨a0, a1, ⟨⟩⟩
  kernel_rfl
theorem sayClasses_q : loopList (bodyOf Try.f5) 0 = [(0, loopOf Try.f5 0)] := by kernel_rfl
theorem sayClasses_spec : SpecOK Try.prog 5 (mkCall 2 sayClasses_i sayClasses_o sayClasses_r sayClasses) := call_spec E_sayBytes_ok Try.func5 (by kernel_rfl) (by kernel_rfl) rfl (fun v => (sayClasses_eq v).trans (sayClasses_okd v)) (LoopsOK_of sayClasses_q ⟨sayClasses_l0, trivial⟩)
end
end Go.Pev
end
section

end
