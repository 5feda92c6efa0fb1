/- A part of the proofs of this seat: U24a U24b U24c U24d U23a U23b U24f U24g U24h U24i U24j U24k U24l U24m U24n G24dP1 G24dP2 G24dP3 G24dP4 G24dP5 G24dP6 G24dP7 G24dP8 G24dP9 G24dP10 G24dP. -/
import Derived.Test.YtaamkoofmojajaaGreatP476ab73aa7
import Derived.Test.YtaamkoofmojajaaGreatProg
set_option linter.unusedVariables false
set_option linter.unusedSimpArgs false
set_option linter.unusedSectionVars false
section
namespace Go.Pev.Pl
open Tok
set_option linter.unusedSimpArgs false
set_option maxRecDepth 100000
theorem ARJ (ts : List Tie) (t : Tie) (k : Int) : trk (ts ++ [t]) k = trk ts k ++ if t.2.2.2.1 = true ∧ k ≤ t.2.2.1 then [ed t] else [] := by
 rw [Ch]
 congr 1
 unfold trk
 rw [List.filter_cons]
 by_cases h : t.2.2.2.1 = true ∧ k ≤ t.2.2.1
 ·rw [if_pos h, h.1, decide_eq_true h.2]; rfl
 ·rw [if_neg h, if_neg]
  ·rfl
  ·rw [Bool.and_eq_true, decide_eq_true_eq]; exact h
theorem ARK (k : Int) : ∀ (ts a : List Tie) (acc : List Edge), acc = trk a k → ts.foldl (fun acc t => if t.2.2.2.1 = true ∧ k ≤ t.2.2.1 then acc ++ [ed t] else acc) acc = trk (a ++ ts) k := by
 intro ts
 induction ts with
 | nil => intro a acc h; simpa using h
 | cons t ts ih =>
  intro a acc h
  rw [List.foldl_cons, ih (a ++ [t])]
  ·simp
  ·rw [ARJ, ← h]
   split <;> simp
theorem AUp (ts : List Tie) (k : Int) : (trk ts k).length ≤ ts.length := by
 unfold trk
 rw [List.length_map]
 exact List.length_filter_le _ _
theorem AAy (ts : List Tie) (k : Int) : ∀ e ∈ trk ts k, e ∈ ts.map ed := by
 intro e he
 obtain ⟨t, h1, _, _, rfl⟩ := B0.1 he
 exact List.mem_map.2 ⟨t, h1, rfl⟩
theorem ATG (n : Int) (ts : List Tie) (hs : ts.length ≤ 400) (k : Int) : MG ((n, (ts, ())), k, ()) = some (trk ts k, ()) := by
 rw [P5, Js]
 have e := CQ (step := B2) (fun i (a : List Edge) => (k, a, ts, AQ ts, (i : Int), ())) ts (fun t a => .inl (if t.2.2.2.1 = true ∧ k ≤ t.2.2.1 then a ++ [ed t] else a)) (fun a => .inl (a, ())) (fun i a => a.length ≤ i) (by omega)
  (fun i x a hi hx ha => by
   refine ⟨fun m' h' => ?_, fun r h' => (by cases h')⟩
   cases h'
   constructor
   ·rw [B2, AP, AL, decide_eq_true hi]
    simp only [AY hx, AP]
    rw [AM (by omega), A2, B6 (by simp only [List.length_cons, List.length_nil]; omega)]
    cases h4 : x.2.2.2.1
    ·simp
    ·by_cases h5 : k ≤ x.2.2.1
     ·simp [h5, ed, BX]
     ·simp [h5]
   ·split
    ·rw [List.length_append]; simp; omega
    ·omega)
  (fun a _ => by rw [B2, AP, AL, decide_eq_false (by omega)]) [] (Nat.le_refl _)
 have e' : AR B2 many (k, [], ts, AQ ts, (0 : Int), ()) = _ := e
 simp only [e']
 rw [BB (fun (t : Tie) (a : List Edge) => if t.2.2.2.1 = true ∧ k ≤ t.2.2.1 then a ++ [ed t] else a), ARK k ts [] [] rfl]
 rfl
theorem ARI {N : Nat} {ts : List Tie} (h : oks N ts) : trs ts ts.length = trk ts 0 := by
 rw [AAx]
 unfold trk
 congr 1
 refine List.filter_congr fun t ht => ?_
 have := ((Kw N ts).1 h).1 t ht
 rw [decide_eq_true this.2.2.2.1, Bool.and_true]
theorem RG2.fo0 {N : Nat} {ts : List Tie} (h : RG2 N ts) : Fo N (trk ts 0) := by rw [← ARI h.oks]; exact h.fo
theorem RG2.inK {N : Nat} {ts : List Tie} (h : RG2 N ts) (k : Int) : ∀ e ∈ trk ts k, In (N : Int) e.1 ∧ In (N : Int) e.2.1 := fun e he => h.inE e (AAy ts k e he)
theorem RG2.AXB {N : Nat} {ts : List Tie} (h : RG2 N ts) (k : Int) : (trk ts k).length ≤ 400 := Nat.le_trans (AUp ts k) h.ht
theorem RG2.ATx {N : Nat} {ts : List Tie} (h : RG2 N ts) (k : Int) : ∃ zs, Ih (((N : Int), (ts, ())), k, ()) = some (((N : Int), (zs, ())), 0, ()) ∧ FC (N : Int) zs (trk ts k) := by
 have hl := h.AXB k
 have h1 := h.h1
 have hN := h.hN
 rcases (ANk (N : Int) (trk ts k) ⟨by omega, by omega⟩ (by omega)).symm with ⟨hno, _⟩ | ⟨_, zs, e, hF⟩
 ·exact absurd (h.inK k) hno
 refine ⟨zs, ?_, hF⟩
 rw [MH, Ho]
 simp only [h.lr, Bool.not_true, ATG (N : Int) ts h.ht k, e]
theorem RG2.AXg {N : Nat} {ts : List Tie} (h : RG2 N ts) (k : Int) : ∃ out, Fv ((N : Int), trk ts k, ()) = some (out, ()) ∧ PC (N : Int) (trk ts k) out := by
 have := h.AXB k
 have h1 := h.h1
 have hN := h.hN
 exact DJ (N : Int) (trk ts k) ⟨by omega, by omega⟩ (by omega) (h.inK k)
theorem AQc {n : Int} {rings : List (List Int)} {l : List Edge} (h : FC n rings l) {u v : Int} (iu : In n u) (iv : In n v) : AHZ ((n, (rings, ())), u, v, ()) = some (EB l u v, 0, ()) := by
 have hD := h.fr.dom
 have hRF := Xg.2 h.fr
 have ht : Il ((n, (rings, ())), [u, v], ()) = some (0, ()) := by
  rw [W0 n rings _ hD (by simp), AWX]
  simp [hRF, iu, iv]
 rw [AHY, Sv]
 simp only [ht, Hr, Bool.not_true, AUs n rings _ hD, hRF, iu, iv, and_self, if_true, Av]
 have : decide (plc rings u = plc rings v) = EB l u v := by
  rw [Bool.eq_iff_iff, decide_eq_true_iff, BN, h.fr.AFu iu iv]
  exact h.sam u v iu iv
 rw [this]
end Go.Pev.Pl
end
section
namespace Go.Pev.Pl
open Tok
set_option linter.unusedSimpArgs false
set_option maxRecDepth 100000
noncomputable def Bk (p : Prop) : Bool := @decide p (Classical.propDecidable _)
theorem BS (p : Prop) : Bk p = true ↔ p := by
 unfold Bk
 exact @decide_eq_true_iff _ (Classical.propDecidable _)
theorem Ve {p : Prop} {b : Bool} (h : b = true ↔ p) : b = Bk p := by rw [Bool.eq_iff_iff, BS]; exact h
theorem ATl : ∀ (xs b : List Edge), B8 b xs = [] → ∀ e ∈ xs, Con b e.1 e.2.1 := by
 intro xs
 induction xs with
 | nil => intro b _ e he; cases he
 | cons x xs ih =>
  intro b h e he
  rw [B8] at h
  by_cases hc : EB b x.1 x.2.1 = true
  ·rw [if_pos hc] at h
   rw [BN] at hc
   rcases List.mem_cons.1 he with rfl | he
   ·exact hc
   ·exact (RZ hc).1 (ih _ h e he)
  ·rw [if_neg hc] at h; cases h
def AIF (ts : List Tie) : Prop := ∀ e ∈ ts.map ed, Con (trk ts 0) e.1 e.2.1
def AQ3 (ts : List Tie) : Prop := ∀ t ∈ ts, t.2.2.2.1 = false → Con (trk ts t.2.2.1) t.1 t.2.1
def AXf (N : Nat) (ts : List Tie) : Prop := ∀ k : Nat, (k : Int) ≤ FF N → ∀ v : Nat, v < N → csz N (trk ts k) v ≤ max 1 (N / 2 ^ k)
theorem AVA {N : Nat} {ts : List Tie} (h : RG2 N ts) : cc N (trk ts 0) = cc N (ts.map ed) ↔ AIF ts := by
 have hi : ∀ e ∈ ts.map ed, InE N e := fun e he => ATZ (h.inE e he)
 constructor
 ·intro hc
  have h1 := Fw (N := N) (ts.map ed) (trk ts 0) hi
  have h2 : cc N (trk ts 0 ++ ts.map ed) = cc N (ts.map ed) := Ix fun a b => Sx fun e => by
   rw [List.mem_append]
   exact ⟨fun q => q.elim (AAy ts 0 e) id, .inr⟩
  exact ATl _ _ (List.eq_nil_of_length_eq_zero (by omega))
 ·intro hs
  exact Ix fun a b => ⟨fun c => c.sub (AAy ts 0), fun c => c.cut hs⟩
theorem AJC {N : Nat} {ts : List Tie} (h : RG2 N ts) : IM (((N : Int), (ts, ())), ()) = some (Bk (AIF ts), ()) := by
 obtain ⟨zs, e, hF⟩ := h.ATx 0
 have ht := h.ht
 have hk := h.AXB 0
 have hc := hF.count h.h1 h.hN (by omega) (h.inK 0)
 rw [PN, JT]
 simp only [e, Hr, Bool.not_true, AK2 (N : Int) ts h.ht h.lr, AJS h.h1 h.hN (ts.map ed) (by rw [List.length_map]; omega) h.inE, AP]
 rw [Sq, hc]
 congr 2
 refine Ve ?_
 rw [decide_eq_true_iff]
 exact AVA h
abbrev AMM := Int × List (List Int) × Unit
theorem YM {N : Nat} {ts : List Tie} (h : RG2 N ts) : ∃ F : List AMM, Fq (((N : Int), (ts, ())), ()) = some (F, ()) ∧ (F.length : Int) = FF N + 1 ∧ ∀ k : Nat, k < F.length → ∃ zs, F[k]? = some ((N : Int), (zs, ())) ∧ FC (N : Int) zs (trk ts k) := by
 have hN := h.hN
 have ht0 := Gn h.hN
 obtain ⟨T, hT⟩ := Int.eq_ofNat_of_zero_le ht0
 have hT64 : T < 100 := by
  have : ((List.range 65).all fun k => decide (FF k < 100)) = true := by kernel_rfl
  have := of_decide_eq_true (List.all_eq_true.1 this N (by simp; omega))
  omega
 rw [NS, Gr]
 have key : ∀ (m i cnt : Nat) (F : List AMM), i + m = T + 1 → m < cnt → F.length = i → (∀ k : Nat, k < i → ∃ zs, F[k]? = some ((N : Int), (zs, ())) ∧ FC (N : Int) zs (trk ts k)) →
   ∃ F' : List AMM, AU CC cnt ((N : Int), ts, F, (i : Int), ()) = some (.inr (.inl (F', ()))) ∧ F'.length = T + 1 ∧ ∀ k : Nat, k < T + 1 → ∃ zs, F'[k]? = some ((N : Int), (zs, ())) ∧ FC (N : Int) zs (trk ts k) := by
  intro m
  induction m with
  | zero =>
   intro i cnt F hi hc hl hF
   obtain ⟨cnt, rfl⟩ : ∃ c, cnt = c + 1 := ⟨cnt - 1, by omega⟩
   refine ⟨F, ?_, by omega, fun k hk => hF k (by omega)⟩
   rw [AU, CC]
   simp only [Ns N h.hN, hT]
   rw [Cc, decide_eq_false (by omega)]
  | succ m ih =>
   intro i cnt F hi hc hl hF
   obtain ⟨cnt, rfl⟩ : ∃ c, cnt = c + 1 := ⟨cnt - 1, by omega⟩
   obtain ⟨zs, e, hz⟩ := h.ATx i
   rw [AU, CC]
   simp only [Ns N h.hN, hT]
   rw [Cc, decide_eq_true (by omega)]
   simp only [e, Hr, Bool.not_true]
   rw [B6 (by simp only [AP, List.length_cons, List.length_nil]; omega), AM (by omega)]
   refine ih (i + 1) cnt _ (by omega) (by omega) (by rw [HZ, List.length_append, hl]; rfl) fun k hk => ?_
   rw [HZ]
   by_cases hki : k < i
   ·rw [List.getElem?_append_left (by omega)]; exact hF k hki
   ·have : k = i := by omega
    subst this
    rw [List.getElem?_append_right (by omega), hl, Nat.sub_self]
    exact ⟨zs, rfl, hz⟩
 obtain ⟨F', e, hl, hF⟩ := key (T + 1) 0 many [] (by omega) (by simp only [many]; omega) rfl (fun k hk => by omega)
 have e' : AR CC many ((N : Int), ts, [], (0 : Int), ()) = _ := (Ag _ _ _).trans e
 refine ⟨F', by simp only [e'], by omega, fun k hk => hF k (by omega)⟩
noncomputable def APe (ts : List Tie) (t : Tie) : Bool := !t.2.2.2.1 && !EB (trk ts t.2.2.1) t.1 t.2.1
theorem AVi (ts : List Tie) : (!ts.any (APe ts)) = Bk (AQ3 ts) := by
 refine Ve ?_
 rw [Bool.not_eq_true', List.any_eq_false]
 unfold APe AQ3
 constructor
 ·intro h t ht hf
  have := h t ht
  rw [hf] at this
  rw [← BN]
  simpa using this
 ·intro h t ht
  cases hf : t.2.2.2.1
  ·have := h t ht hf
   rw [← BN] at this
   simp [this]
  ·simp
theorem RG2.tie {N : Nat} {ts : List Tie} (h : RG2 N ts) {t : Tie} (ht : t ∈ ts) : In (N : Int) t.1 ∧ In (N : Int) t.2.1 ∧ t.1 < t.2.1 ∧ 0 ≤ t.2.2.1 ∧ t.2.2.1 ≤ FF N := by
 have h1 := ((Kw N ts).1 h.oks).1 t ht
 have h2 := h.inE (ed t) (List.mem_map.2 ⟨t, ht, rfl⟩)
 exact ⟨h2.1, h2.2, h1.2.1, h1.2.2.2.1, h1.2.2.2.2⟩
theorem AFV {N : Nat} {ts : List Tie} (h : RG2 N ts) : IN (((N : Int), (ts, ())), ()) = some (Bk (AQ3 ts), ()) := by
 obtain ⟨F, e, hl, hF⟩ := h.hN |> fun _ => YM h
 have ht := h.ht
 have ht0 := Gn h.hN
 rw [T3, Ko]
 simp only [e]
 rw [Av, decide_eq_false (by rw [AP]; omega)]
 simp only []
 rw [JH, D2, J2, Ex]
 have e2 := OG (step := Bl) (fun i => (F, ts, AQ ts, (i : Int), ())) ts (APe ts) (fun i => .inl (F, (i : Int), ())) (.inr (.inl (F, ()))) (by omega)
  (fun i x hi hx => by
   obtain ⟨i1, i2, _, l1, l2⟩ := h.tie (List.mem_of_getElem? hx)
   obtain ⟨k, hk⟩ := Int.eq_ofNat_of_zero_le l1
   obtain ⟨zs, f1, f2⟩ := hF k (by omega)
   rw [Bl, AP, AL, decide_eq_true hi]
   simp only [AY hx, hk, AY f1, AQc f2 i1 i2]
   rw [AM (by omega)]
   unfold APe
   rw [hk]
   cases x.2.2.2.1
   ·cases EB (trk ts (k : Int)) x.1 x.2.1 <;> simp
   ·simp)
  (by rw [Bl, AP, AL, decide_eq_false (by omega)])
 have e' : AR Bl many (F, ts, AQ ts, (0 : Int), ()) = _ := e2
 simp only [e']
 rw [← AVi]
 by_cases ha : ts.any (APe ts) = true
 ·rw [if_pos ha, ha]
  simp only [A2]
  rw [decide_eq_true (by omega)]
 ·rw [if_neg ha]
  simp only [A2]
  have : ts.any (APe ts) = false := by simpa using ha
  rw [this]
  rfl
end Go.Pev.Pl
end
section
namespace Go.Pev.Pl
open Tok
set_option linter.unusedSimpArgs false
set_option maxRecDepth 100000
def AA5 (N : Nat) : Nat := (FF N).toNat
theorem IE {N : Nat} (hN : N ≤ 64) : FF N = (AA5 N : Int) := by
 have := Gn hN
 unfold AA5
 omega
theorem M8 {N : Nat} (hN : N ≤ 64) : AA5 N < 64 := by
 have : ((List.range 65).all fun k => decide (FF k < 64)) = true := by kernel_rfl
 have h1 := of_decide_eq_true (List.all_eq_true.1 this N (by simp; omega))
 have := IE hN
 omega
theorem AQ4 (n : Nat) (h : n < 18446744073709551616) : IntKind.wrap .u64 (n : Int) = (n : Int) := IntWalk.u64_in _ (by omega)
theorem Snd.parts {N : Nat} {ts : List Tie} (h : RG2 N ts) (hs : Snd N (AA5 N : Int) ts) : AIF ts ∧ AQ3 ts ∧ AXf N ts := by
 refine ⟨fun e he => (hs.span _ _).1 (.edge e he), hs.lie, fun k hk v hv => hs.halv k (by rw [← IE h.hN]; exact hk) v hv⟩
def lvs (xs : List Tie) : Int := (xs.map fun t => t.2.2.1).sum
theorem AQU (P : Tie → Bool) : ∀ (xs : List Tie) (a : Int), xs.foldl (fun a t => if P t = true then a + t.2.2.1 else a) a = a + lvs (xs.filter P) := by
 intro xs
 induction xs with
 | nil => intro a; simp [lvs]
 | cons x xs ih =>
  intro a
  rw [List.foldl_cons, ih, List.filter_cons]
  by_cases h : P x = true
  ·rw [if_pos h, if_pos h]
   unfold lvs
   rw [List.map_cons, List.sum_cons]; omega
  ·rw [if_neg h, if_neg h]
theorem AQX : ∀ (xs : List Tie) (a : Int), xs.foldl (fun a t => a + t.2.2.1) a = a + lvs xs := by
 intro xs
 induction xs with
 | nil => intro a; simp [lvs]
 | cons x xs ih =>
  intro a
  rw [List.foldl_cons, ih]
  unfold lvs
  rw [List.map_cons, List.sum_cons]; omega
theorem ABb {N : Nat} {ts : List Tie} (h : RG2 N ts) : GH (((N : Int), (ts, ())), ()) = some (lvs (ts.filter fun t => t.2.2.2.1), ()) := by
 have ht := h.ht
 rw [Qy, IL, ZO, NK]
 simp only [h.lr, Bool.not_true]
 have e := CQ (step := EF) (fun i (a : Int) => (a, ts, AQ ts, (i : Int), ())) ts (fun t a => .inl (if t.2.2.2.1 = true then a + t.2.2.1 else a)) (fun a => .inl (a, ())) (fun i a => 0 ≤ a ∧ a ≤ 64 * (i : Int)) (by omega)
  (fun i x a hi hx ha => by
   refine ⟨fun m' h' => ?_, fun r h' => (by cases h')⟩
   cases h'
   have h2 := (h.tie (List.mem_of_getElem? hx)).2.2.2
   have h3 := M8 h.hN
   have h4 := IE h.hN
   refine ⟨?_, by split <;> omega⟩
   rw [EF, AP, AL, decide_eq_true hi]
   simp only [AY hx]
   rw [AM (by omega), Ah (by omega)]
   by_cases hb : x.2.2.2.1 = true
   ·simp only [hb, if_true]
   ·have hb : x.2.2.2.1 = false := by simpa using hb
    simp only [hb]
    rfl)
  (fun a _ => by rw [EF, AP, AL, decide_eq_false (by omega)]) 0 ⟨Int.le_refl _, by simp⟩
 have e' : AR EF many ((0 : Int), ts, AQ ts, (0 : Int), ()) = _ := e
 simp only [e']
 rw [BB (fun (t : Tie) (a : Int) => if t.2.2.2.1 = true then a + t.2.2.1 else a), AQU (fun t => t.2.2.2.1), Int.zero_add]
end Go.Pev.Pl
end
section
namespace Go.Pev.Pl
open Tok
set_option linter.unusedSimpArgs false
set_option maxRecDepth 100000
theorem AEF : HC () = some (true, ()) := by
 rw [show HC () = @HC idI () from congrArg (fun i => @HC i ()) WY]
 kernel_rfl
theorem AJE (n : Int) (ts : List Tie) (hr : ER ((n, (ts, ())), ()) = some (false, ())) : IM ((n, (ts, ())), ()) = some (false, ()) := by
 have hl : Ih ((n, (ts, ())), (0 : Int), ()) = some ((0, ([], ())), 1, ()) := by
  rw [MH, Ho]
  simp only [hr, Bool.not_false]
 rw [PN, JT]
 simp only [hl, Av]
 rfl
theorem AHO (n : Int) (ts : List Tie) : K3 ((n, (ts, ())), ()) = some (true, ()) ∨ (K3 ((n, (ts, ())), ()) = some (false, ()) ∧ ts.length ≤ 30 ∧ n ≤ 12) := by
 rw [Wy, K2]
 simp only [AP, Aj]
 by_cases h1 : (30 : Int) < ts.length
 ·left; simp only [decide_eq_true h1]
 by_cases h2 : (12 : Int) < n
 ·left; simp only [decide_eq_false h1, decide_eq_true h2]
 ·right; simp only [decide_eq_false h1, decide_eq_false h2]; exact ⟨trivial, by omega, by omega⟩
theorem AUq {N : Nat} (hN : N ≤ 64) : N / 2 ^ AA5 N ≤ 1 := by
 have : ((List.range 65).all fun k => decide (k / 2 ^ AA5 k ≤ 1)) = true := by kernel_rfl
 exact of_decide_eq_true (List.all_eq_true.1 this N (by simp; omega))
theorem RG2.below {N : Nat} {ts : List Tie} (h : RG2 N ts) (hs : Snd N (AA5 N : Int) ts) {t : Tie} (ht : t ∈ ts) : t.2.2.1 < (AA5 N : Int) :=
 hs.below (AUq h.hN) ht (by have := (h.tie ht).2.2.1; omega)
end Go.Pev.Pl
end
section
namespace Go.Pev.Pl
open Tok
set_option linter.unusedSimpArgs false
set_option maxRecDepth 100000
end Go.Pev.Pl
end
section
namespace Go.Pev.Pl
open Tok
set_option linter.unusedSimpArgs false
set_option maxRecDepth 100000
theorem AAr {α : Type} {A R : List α} {x : α} {i : Nat} (h : A.length = i) : (A ++ x :: R)[i]? = some x := by
 rw [List.getElem?_append_right (by omega), h, Nat.sub_self]; rfl
theorem AMW {α : Type} {A R : List α} {x y : α} {i : Nat} (h : A.length = i) : Ak (A ++ x :: R) (AG (i : Int)) y = A ++ y :: R := by
 rw [Is, List.set_append_right _ _ (by omega), h, Nat.sub_self]; rfl
end Go.Pev.Pl
end
section
namespace Go.Pev.Pl
open Tok
set_option linter.unusedSimpArgs false
set_option maxRecDepth 100000
theorem AQd (x : Tie) : (x.1, (x.2.1, (x.2.2.1, (x.2.2.2.1, ())))) = x := rfl
theorem CR {α : Type} {A R L : List α} {x : α} {i : Nat} (hL : L = A ++ x :: R) (h : A.length = i) : L[i]? = some x := by rw [hL]; exact AAr h
theorem F6 {α : Type} {A R L : List α} {x y : α} {i : Nat} (hL : L = A ++ x :: R) (h : A.length = i) : Ak L (AG (i : Int)) y = A ++ y :: R := by rw [hL]; exact AMW h
theorem AIv (s : List Tie) (a b n : Nat) : ∀ (x : List Tie) (P q y : List Tie) (i cnt : Nat), x.length = y.length → a + i = P.length → b + i = P.length + x.length + q.length → n = i + x.length → x.length < cnt → P.length + x.length + q.length + y.length + s.length < 1073741824 →
  AU GF cnt (P ++ (x ++ (q ++ (y ++ s))), (a : Int), (b : Int), (n : Int), (i : Int), ()) = some (.inl (P ++ (y ++ (q ++ (x ++ s))), ())) := by
 intro x
 induction x with
 | nil =>
  intro P q y i cnt hl ha hb hn hc hs
  obtain ⟨cnt, rfl⟩ : ∃ c, cnt = c + 1 := ⟨cnt - 1, by omega⟩
  have : y = [] := List.eq_nil_of_length_eq_zero (by simpa using hl.symm)
  subst this
  rw [AU, GF, AL, decide_eq_false (by simp at hn; omega)]
 | cons x0 x ih =>
  intro P q y i cnt hl ha hb hn hc hs
  obtain ⟨cnt, rfl⟩ : ∃ c, cnt = c + 1 := ⟨cnt - 1, by omega⟩
  cases y with
  | nil => simp at hl
  | cons y0 y =>
   simp only [List.length_cons] at hl hb hn hc hs
   have e1 : P ++ (x0 :: x ++ (q ++ (y0 :: y ++ s))) = P ++ x0 :: (x ++ (q ++ (y0 :: y ++ s))) := by simp
   have e2 : P ++ (x0 :: x ++ (q ++ (y0 :: y ++ s))) = (P ++ (x0 :: (x ++ q))) ++ y0 :: (y ++ s) := by simp
   have g1 := CR e1 (i := a + i) ha.symm
   have g2 := CR e2 (i := b + i) (by simp; omega)
   have s1 : Ak (P ++ (x0 :: x ++ (q ++ (y0 :: y ++ s)))) (AG ((a + i : Nat) : Int)) y0 = P ++ y0 :: (x ++ (q ++ (y0 :: y ++ s))) := F6 e1 ha.symm
   have e3 : P ++ y0 :: (x ++ (q ++ (y0 :: y ++ s))) = (P ++ (y0 :: (x ++ q))) ++ y0 :: (y ++ s) := by simp
   have g3 := CR e3 (i := b + i) (by simp; omega)
   have s2 : Ak (P ++ y0 :: (x ++ (q ++ (y0 :: y ++ s)))) (AG ((b + i : Nat) : Int)) x0 = (P ++ (y0 :: (x ++ q))) ++ x0 :: (y ++ s) := F6 e3 (by simp; omega)
   rw [AU, GF, AL, decide_eq_true (by omega)]
   simp only [wrap_add (show a + i < 9223372036854775808 by omega), wrap_add (show b + i < 9223372036854775808 by omega), AY g1, AY g2, BD g1, BD g2, AQd, s1, AY g3, s2]
   rw [AM (by omega)]
   have e4 : (P ++ (y0 :: (x ++ q))) ++ x0 :: (y ++ s) = (P ++ [y0]) ++ (x ++ ((q ++ [x0]) ++ (y ++ s))) := by simp
   have e5 : P ++ (y0 :: y ++ (q ++ (x0 :: x ++ s))) = (P ++ [y0]) ++ (y ++ ((q ++ [x0]) ++ (x ++ s))) := by simp
   rw [e4, e5]
   exact ih (P ++ [y0]) (q ++ [x0]) y (i + 1) cnt (by omega) (by simp; omega) (by simp; omega) (by omega) (by omega) (by simp; omega)
theorem PK (P x q y s : List Tie) (hl : x.length = y.length) (hs : P.length + x.length + q.length + y.length + s.length < 1073741824) :
  Ta (P ++ (x ++ (q ++ (y ++ s))), (P.length : Int), ((P.length + x.length + q.length : Nat) : Int), (x.length : Int), ()) = some (P ++ (y ++ (q ++ (x ++ s))), ()) := by
 have := AIv s P.length (P.length + x.length + q.length) x.length x P q y 0 many hl rfl rfl (by omega) (by simp only [many]; omega) hs
 have e' : AR GF many (P ++ (x ++ (q ++ (y ++ s))), (P.length : Int), ((P.length + x.length + q.length : Nat) : Int), (x.length : Int), (0 : Int), ()) = _ := (Ag _ _ _).trans this
 rw [AE9, Sa]
 simp only [e']
theorem AO6 (m : Nat) : ∀ (k : Nat) (P A B Q : List Tie) (cnt : Nat), A.length + B.length = k → 1 ≤ A.length → 1 ≤ B.length → P.length + A.length = m → k < cnt → P.length + A.length + B.length + Q.length < 1073741824 →
  ∃ P' A' B' Q' : List Tie, AU Kq cnt (P ++ (A ++ (B ++ Q)), (m : Int), (A.length : Int), (B.length : Int), ()) = some (.inl (P' ++ (A' ++ (B' ++ Q')), (m : Int), (A'.length : Int), ())) ∧ A'.length = B'.length ∧ P'.length + A'.length = m ∧ P' ++ (B' ++ (A' ++ Q')) = P ++ (B ++ (A ++ Q)) ∧ P'.length + A'.length + B'.length + Q'.length < 1073741824 := by
 intro k
 induction k using Nat.strongRecOn with
 | ind k ih =>
  intro P A B Q cnt hk hA hB hm hc hs
  obtain ⟨cnt, rfl⟩ : ∃ c, cnt = c + 1 := ⟨cnt - 1, by omega⟩
  rw [AU, Kq, Sq]
  by_cases he : A.length = B.length
  ·rw [decide_eq_true he]
   exact ⟨P, A, B, Q, rfl, he, hm, rfl, hs⟩
  ·rw [decide_eq_false he]
   simp only [Bool.not_false, AL]
   by_cases hlt : B.length < A.length
   ·rw [decide_eq_true hlt]
    simp only []
    rw [A5 ⟨by omega, by omega⟩]
    have hsp : A = A.take B.length ++ A.drop B.length := (List.take_append_drop _ _).symm
    have l1 : (A.take B.length).length = B.length := by rw [List.length_take]; omega
    have l2 : (A.drop B.length).length = A.length - B.length := List.length_drop
    have hsw := PK P (A.take B.length) (A.drop B.length) B Q l1 (by omega)
    have e1 : P ++ (A ++ (B ++ Q)) = P ++ (A.take B.length ++ (A.drop B.length ++ (B ++ Q))) := by
     rw [← List.append_assoc (A.take _), List.take_append_drop]
    rw [l1, l2, show P.length + B.length + (A.length - B.length) = m by omega, ← e1] at hsw
    rw [show m - A.length = P.length by omega]
    simp only [hsw]
    rw [A5 ⟨by omega, by omega⟩]
    have e2 : P ++ (B ++ (A.drop B.length ++ (A.take B.length ++ Q))) = (P ++ B) ++ (A.drop B.length ++ (A.take B.length ++ Q)) := by simp
    obtain ⟨P', A', B', Q', f1, f2, f3, f4, f5⟩ := ih (A.length) (by omega) (P ++ B) (A.drop B.length) (A.take B.length) Q cnt (by omega) (by omega) (by omega) (by rw [List.length_append]; omega) (by omega) (by rw [List.length_append]; omega)
    rw [l1, l2] at f1
    rw [e2]
    refine ⟨P', A', B', Q', f1, f2, f3, ?_, f5⟩
    rw [f4, ← List.append_assoc (A.take _), List.take_append_drop, List.append_assoc]
   ·rw [decide_eq_false hlt]
    simp only []
    rw [A5 ⟨by omega, by omega⟩, wrap_add (by omega), A5 ⟨by omega, by omega⟩]
    have hsp : B = B.take (B.length - A.length) ++ B.drop (B.length - A.length) := (List.take_append_drop _ _).symm
    have l1 : (B.take (B.length - A.length)).length = B.length - A.length := by rw [List.length_take]; omega
    have l2 : (B.drop (B.length - A.length)).length = A.length := by rw [List.length_drop]; omega
    have hsw := PK P A (B.take (B.length - A.length)) (B.drop (B.length - A.length)) Q l2.symm (by omega)
    have e1 : P ++ (A ++ (B ++ Q)) = P ++ (A ++ (B.take (B.length - A.length) ++ (B.drop (B.length - A.length) ++ Q))) := by
     rw [← List.append_assoc (B.take _), List.take_append_drop]
    rw [l1, show P.length + A.length + (B.length - A.length) = m + B.length - A.length by omega, ← e1] at hsw
    rw [show m - A.length = P.length by omega]
    simp only [hsw]
    rw [A5 ⟨by omega, by omega⟩]
    obtain ⟨P', A', B', Q', f1, f2, f3, f4, f5⟩ := ih (B.length) (by omega) P (B.drop (B.length - A.length)) (B.take (B.length - A.length)) (A ++ Q) cnt (by omega) (by omega) (by omega) (by omega) (by omega) (by rw [List.length_append]; omega)
    rw [l1, l2] at f1
    refine ⟨P', A', B', Q', f1, f2, f3, ?_, f5⟩
    rw [f4, ← List.append_assoc (B.take _), List.take_append_drop]
theorem ASU (P A B Q : List Tie) (hA : 1 ≤ A.length) (hB : 1 ≤ B.length) (hs : P.length + A.length + B.length + Q.length < 1073741824) :
  AJj (P ++ (A ++ (B ++ Q)), (P.length : Int), ((P.length + A.length : Nat) : Int), ((P.length + A.length + B.length : Nat) : Int), ()) = some (P ++ (B ++ (A ++ Q)), ()) := by
 obtain ⟨P', A', B', Q', f1, f2, f3, f4, f5⟩ := AO6 (P.length + A.length) (A.length + B.length) P A B Q many rfl hA hB rfl (by simp only [many]; omega) hs
 have f1' := (Ag Kq many _).trans f1
 rw [AMv, ACE]
 rw [A5 ⟨by omega, by omega⟩, A5 ⟨by omega, by omega⟩, show P.length + A.length - P.length = A.length by omega, show P.length + A.length + B.length - (P.length + A.length) = B.length by omega]
 simp only [f1']
 rw [A5 ⟨by omega, by omega⟩]
 have hsw := PK P' A' [] B' Q' f2 (by simp; omega)
 simp only [List.nil_append, List.length_nil, Nat.add_zero] at hsw
 rw [show P.length + A.length - A'.length = P'.length by omega]
 rw [f3] at hsw
 simp only [hsw, f4]
end Go.Pev.Pl
end
section
namespace Go.Pev.Pl
open Tok
set_option linter.unusedSimpArgs false
set_option maxRecDepth 100000
def bef (x y : Tie) : Prop := y.2.2.1 < x.2.2.1 ∨ (x.2.2.1 = y.2.2.1 ∧ ahead x y)
theorem bef.trans {x y z : Tie} (h : bef x y) (h' : bef y z) : bef x z := by
 unfold bef ahead at *
 omega
theorem bef.asymm {x y : Tie} (h : bef x y) : ¬ bef y x := by
 unfold bef ahead at *
 omega
theorem Iu {x y : Tie} (h : ahead x y) : ∃ r, Bq (y, x, ()) = some (r, ()) ∧ ilt r (0 : Int) = Bk (bef y x) ∧ (Bk (bef y x) = false → bef x y) := by
 rw [UA, Kp]
 simp only [OW]
 refine ⟨_, rfl, ?_, fun hn => ?_⟩
 ·refine Ve ?_
  rw [Aj, decide_eq_true_iff]
  unfold AUM bef ahead at *
  split
  ·omega
  ·split <;> omega
 ·have : ¬ bef y x := fun hb => by
   have h2 := (BS (bef y x)).2 hb
   rw [hn] at h2; cases h2
  unfold bef ahead at *
  omega
theorem AIq (self : (List Tie × Int × Int × Int × Unit) → Option ((List Tie × Unit))) (x : Tie) (R : List Tie) (e : Nat) : ∀ (v P : List Tie) (k cnt : Nat), P.length = k → k + v.length = e → v.length < cnt → P.length + v.length < 1073741824 →
  AU (IH self) cnt (P ++ (x :: (v ++ R)), ((e + 1 : Nat) : Int), (k : Int), ()) = some (.inl (P ++ (v ++ (x :: R)), ())) := by
 intro v
 induction v with
 | nil =>
  intro P k cnt hk he hc hs
  obtain ⟨cnt, rfl⟩ : ∃ c, cnt = c + 1 := ⟨cnt - 1, by omega⟩
  simp only [List.length_nil] at he
  rw [AU, IH, Ap (by omega), AL, decide_eq_false (by omega)]
  rfl
 | cons y v ih =>
  intro P k cnt hk he hc hs
  obtain ⟨cnt, rfl⟩ : ∃ c, cnt = c + 1 := ⟨cnt - 1, by omega⟩
  simp only [List.length_cons] at he hc hs
  have e2 : P ++ (x :: (y :: v ++ R)) = (P ++ [x]) ++ y :: (v ++ R) := by simp
  have g1 : (P ++ (x :: (y :: v ++ R)))[k]? = some x := AAr hk
  have g2 := CR e2 (i := k + 1) (by simp [hk])
  have s1 : Ak (P ++ (x :: (y :: v ++ R))) (AG (k : Int)) y = P ++ y :: (y :: v ++ R) := AMW hk
  have e3 : P ++ y :: (y :: v ++ R) = (P ++ [y]) ++ y :: (v ++ R) := by simp
  have g3 := CR e3 (i := k + 1) (by simp [hk])
  have s2 : Ak (P ++ y :: (y :: v ++ R)) (AG ((k + 1 : Nat) : Int)) x = (P ++ [y]) ++ x :: (v ++ R) := F6 e3 (by simp [hk])
  rw [AU, IH, Ap (by omega), AL, decide_eq_true (by omega)]
  simp only [AM (show k + 1 < 9223372036854775808 by omega), AY g1, AY g2, BD g1, BD g2, AQd, s1, AY g3, s2]
  have := ih (P ++ [y]) (k + 1) cnt (by simp [hk]) (by omega) (by omega) (by simp; omega)
  rw [this]
  simp
theorem AIp (self : (List Tie × Int × Int × Int × Unit) → Option ((List Tie × Unit))) (y : Tie) (e : Nat) (P : List Tie) (hP : P.length = e) : ∀ (m : Nat) (u R : List Tie) (k cnt : Nat), u.length = m → P.length + u.length = k → u.length < cnt → P.length + u.length < 1073741824 →
  AU (IF self) cnt (P ++ (u ++ (y :: R)), (e : Int), (k : Int), ()) = some (.inl (P ++ (y :: (u ++ R)), ())) := by
 intro m
 induction m with
 | zero =>
  intro u R k cnt hm hk hc hs
  obtain ⟨cnt, rfl⟩ : ∃ c, cnt = c + 1 := ⟨cnt - 1, by omega⟩
  have : u = [] := List.eq_nil_of_length_eq_zero hm
  subst this
  simp only [List.length_nil] at hk
  rw [AU, IF, AL, decide_eq_false (by omega)]
  rfl
 | succ m ih =>
  intro u R k cnt hm hk hc hs
  obtain ⟨cnt, rfl⟩ : ∃ c, cnt = c + 1 := ⟨cnt - 1, by omega⟩
  obtain ⟨u', x, rfl⟩ : ∃ u' x, u = u' ++ [x] := by
   have hne : u ≠ [] := fun h => by rw [h] at hm; cases hm
   exact ⟨u.dropLast, u.getLast hne, (List.dropLast_concat_getLast hne).symm⟩
  rw [List.length_append, List.length_singleton] at hm hk hc hs
  have e1 : P ++ (u' ++ [x] ++ (y :: R)) = (P ++ u') ++ x :: (y :: R) := by simp
  have e2 : P ++ (u' ++ [x] ++ (y :: R)) = (P ++ (u' ++ [x])) ++ y :: R := by simp
  have g1 := CR e1 (i := k - 1) (by simp; omega)
  have g2 := CR e2 (i := k) (by simp; omega)
  have s1 : Ak (P ++ (u' ++ [x] ++ (y :: R))) (AG (k : Int)) x = (P ++ (u' ++ [x])) ++ x :: R := F6 e2 (by simp; omega)
  have e3 : (P ++ (u' ++ [x])) ++ x :: R = (P ++ u') ++ x :: (x :: R) := by simp
  have g3 := CR e3 (i := k - 1) (by simp; omega)
  have s2 : Ak ((P ++ (u' ++ [x])) ++ x :: R) (AG ((k - 1 : Nat) : Int)) y = (P ++ u') ++ y :: (x :: R) := F6 e3 (by simp; omega)
  rw [AU, IF, AL, decide_eq_true (by omega)]
  simp only [Ap (show 1 ≤ k ∧ k < 9223372036854775808 by omega), AY g1, AY g2, BD g1, BD g2, AQd, s1, AY g3, s2]
  have e4 : (P ++ u') ++ y :: (x :: R) = P ++ (u' ++ (y :: (x :: R))) := by simp
  rw [e4]
  have := ih u' (x :: R) (k - 1) cnt (by omega) (by omega) (by omega) (by omega)
  rw [this]
  simp
theorem ADL (a b : Nat) (h : a + b < 1073741824) : shr? .u64 (IntKind.wrap .u64 (IntKind.wrap .i64 ((a : Int) + (b : Int)))) (1 : Int) = some (((a + b) / 2 : Nat) : Int) := by
 rw [wrap_add (by omega), AQ4 _ (by omega)]
 have := Sg (a + b) 1 (by omega)
 simpa using this
theorem ADK (a b : Nat) (h : a + b < 1073741824) : IntKind.wrap .i64 (((a + b) / 2 : Nat) : Int) = (((a + b) / 2 : Nat) : Int) := Ah (by omega)
def Mrg (u v w : List Tie) : Prop := w.Perm (u ++ v) ∧ w.Pairwise bef
theorem Dg {u : List Tie} (h : u.Pairwise bef) {i j : Nat} {x y : Tie} (hi : u[i]? = some x) (hj : u[j]? = some y) (hij : i < j) : bef x y := by
 obtain ⟨hi1, rfl⟩ := List.getElem?_eq_some_iff.1 hi
 obtain ⟨hj1, rfl⟩ := List.getElem?_eq_some_iff.1 hj
 exact (List.pairwise_iff_getElem.1 h) i j hi1 hj1 hij
theorem ZG (self : (List Tie × Int × Int × Int × Unit) → Option ((List Tie × Unit))) (P Q v : List Tie) (x : Tie) (hv : v.Pairwise bef) (hc : ∀ y ∈ v, ahead x y) (hs : P.length + 1 + v.length + Q.length < 536870912) :
  ∃ w, JO self (P ++ ([x] ++ (v ++ Q)), (P.length : Int), ((P.length + 1 : Nat) : Int), ((P.length + 1 + v.length : Nat) : Int), ()) = some (P ++ (w ++ Q), ()) ∧ Mrg [x] v w := by
 have hL : ∀ h, P.length + 1 ≤ h → h < P.length + 1 + v.length → (P ++ ([x] ++ (v ++ Q)))[h]? = v[h - (P.length + 1)]? := by
  intro h h1 h2
  rw [List.getElem?_append_right (by omega), List.getElem?_append_right (by simp; omega), List.getElem?_append_left (by simp; omega)]
  congr 1
 have hx : (P ++ ([x] ++ (v ++ Q)))[P.length]? = some x := AAr rfl
 have hget : ∀ h, P.length + 1 ≤ h → h < P.length + 1 + v.length → ∃ y, v[h - (P.length + 1)]? = some y ∧ y ∈ v := fun h h1 h2 => by
  have hh : h - (P.length + 1) < v.length := by omega
  exact ⟨_, List.getElem?_eq_getElem hh, List.getElem_mem hh⟩
 let Pb : Nat → Bool := fun h => Bk (bef (v.getD (h - (P.length + 1)) zT) x)
 obtain ⟨k, k1, k2, k3, k4, k5⟩ := AXL (step := II self) (fun i j => (P ++ ([x] ++ (v ++ Q)), (P.length : Int), (i : Int), (j : Int), ())) Pb (fun i => .inl (P ++ ([x] ++ (v ++ Q)), (P.length : Int), (i : Int), ())) (P.length + 1) (P.length + 1 + v.length) (by omega) (by omega)
  (fun i j hi hij hj => by
   obtain ⟨y, hy, hym⟩ := hget ((i + j) / 2) (by omega) (by omega)
   have hy' : (P ++ ([x] ++ (v ++ Q)))[(i + j) / 2]? = some y := by rw [hL _ (by omega) (by omega)]; exact hy
   obtain ⟨r, c1, c2, _⟩ := Iu (hc y hym)
   rw [II, AL, decide_eq_true hij]
   simp only [ADL i j (by omega), ADK i j (by omega), AY hy', AY hx, BD hy', BD hx, AQd, c1, c2]
   have hPb : Pb ((i + j) / 2) = Bk (bef y x) := by
    show Bk (bef (v.getD ((i + j) / 2 - (P.length + 1)) zT) x) = _
    rw [List.getD_eq_getElem?_getD, hy]; rfl
   rw [hPb, AM (by omega)]
   cases Bk (bef y x) <;> rfl)
  (fun i hi hj => by rw [II, AL, decide_eq_false (by omega)])
  (fun a b ha hab hb hp => by
   by_cases he : a = b
   ·rw [he]; exact hp
   ·obtain ⟨y, hy, _⟩ := hget a (by omega) (by omega)
    obtain ⟨z, hz, _⟩ := hget b (by omega) (by omega)
    have hp' : bef z x := by
     have : Bk (bef (v.getD (b - (P.length + 1)) zT) x) = true := hp
     rw [List.getD_eq_getElem?_getD, hz, BS] at this
     exact this
    show Bk (bef (v.getD (a - (P.length + 1)) zT) x) = true
    rw [List.getD_eq_getElem?_getD, hy, BS]
    exact (Dg hv hy hz (by omega)).trans hp')
 obtain ⟨j, rfl⟩ : ∃ j, k = P.length + 1 + j := ⟨k - (P.length + 1), by omega⟩
 have hj : j ≤ v.length := by omega
 have hsp : v.take j ++ v.drop j = v := List.take_append_drop _ _
 have hlt : (v.take j).length = j := by rw [List.length_take]; omega
 have hm := AIq self x (v.drop j ++ Q) (P.length + j) (v.take j) P P.length many rfl (by omega) (by simp only [many]; omega) (by omega)
 rw [← Ag] at hm
 have e1 : P ++ (x :: (v.take j ++ (v.drop j ++ Q))) = P ++ ([x] ++ (v ++ Q)) := by
  rw [← List.append_assoc (v.take j), hsp]; rfl
 rw [e1] at hm
 refine ⟨v.take j ++ x :: v.drop j, ?_, ?_, ?_⟩
 ·rw [JO, A5 ⟨by omega, by omega⟩, show P.length + 1 - P.length = 1 by omega, Av, decide_eq_true (by omega)]
  simp only [k5]
  rw [show P.length + 1 + j = P.length + j + 1 by omega]
  simp only [hm]
  simp
 ·refine List.perm_middle.trans ?_
  rw [hsp]
  exact List.Perm.refl _
 ·rw [List.pairwise_append, List.pairwise_cons]
  have hv' := hv
  rw [← hsp, List.pairwise_append] at hv'
  have before : ∀ y ∈ v.take j, bef y x := fun y hy => by
   obtain ⟨i, hi, rfl⟩ := List.getElem_of_mem hy
   rw [hlt] at hi
   have := k3 (P.length + 1 + i) (by omega) (by omega)
   have this : Bk (bef (v.getD (P.length + 1 + i - (P.length + 1)) zT) x) = true := this
   rw [show P.length + 1 + i - (P.length + 1) = i by omega, List.getD_eq_getElem?_getD, List.getElem?_eq_getElem (show i < v.length by omega), BS] at this
   rw [List.getElem_take]; exact this
  have after : ∀ y ∈ v.drop j, bef x y := fun y hy => by
   obtain ⟨i, hi, rfl⟩ := List.getElem_of_mem hy
   rw [List.length_drop] at hi
   have := k4 (P.length + 1 + (j + i)) (by omega) (by omega)
   have this : Bk (bef (v.getD (P.length + 1 + (j + i) - (P.length + 1)) zT) x) = false := this
   rw [show P.length + 1 + (j + i) - (P.length + 1) = j + i by omega, List.getD_eq_getElem?_getD, List.getElem?_eq_getElem (show j + i < v.length by omega)] at this
   rw [List.getElem_drop]
   obtain ⟨_, _, _, c3⟩ := Iu (hc v[j + i] (List.getElem_mem _))
   exact c3 this
  refine ⟨hv'.1, ⟨after, hv'.2.1⟩, fun y hy z hz => ?_⟩
  rcases List.mem_cons.1 hz with rfl | hz
  ·exact before y hy
  ·exact hv'.2.2 y hy z hz
end Go.Pev.Pl
end
section
namespace Go.Pev.Pl
open Tok
set_option linter.unusedSimpArgs false
set_option maxRecDepth 100000
theorem AOU (self : (List Tie × Int × Int × Int × Unit) → Option ((List Tie × Unit))) (P Q u : List Tie) (y : Tie) (hu : u.Pairwise bef) (hu2 : 2 ≤ u.length) (hc : ∀ x ∈ u, ahead x y) (hs : P.length + u.length + 1 + Q.length < 536870912) :
  ∃ w, JO self (P ++ (u ++ ([y] ++ Q)), (P.length : Int), ((P.length + u.length : Nat) : Int), ((P.length + u.length + 1 : Nat) : Int), ()) = some (P ++ (w ++ Q), ()) ∧ Mrg u [y] w := by
 have hL : ∀ h, P.length ≤ h → h < P.length + u.length → (P ++ (u ++ ([y] ++ Q)))[h]? = u[h - P.length]? := by
  intro h h1 h2
  rw [List.getElem?_append_right (by omega), List.getElem?_append_left (by omega)]
 have hy : (P ++ (u ++ ([y] ++ Q)))[P.length + u.length]? = some y := by
  have : P ++ (u ++ ([y] ++ Q)) = (P ++ u) ++ y :: Q := by simp
  exact CR this (by simp)
 have hget : ∀ h, P.length ≤ h → h < P.length + u.length → ∃ x, u[h - P.length]? = some x ∧ x ∈ u := fun h h1 h2 => by
  have hh : h - P.length < u.length := by omega
  exact ⟨_, List.getElem?_eq_getElem hh, List.getElem_mem hh⟩
 let Pb : Nat → Bool := fun h => !Bk (bef y (u.getD (h - P.length) zT))
 obtain ⟨k, k1, k2, k3, k4, k5⟩ := AXL (step := IG self) (fun i j => (P ++ (u ++ ([y] ++ Q)), ((P.length + u.length : Nat) : Int), (i : Int), (j : Int), ())) Pb (fun i => .inl (P ++ (u ++ ([y] ++ Q)), ((P.length + u.length : Nat) : Int), (i : Int), ())) P.length (P.length + u.length) (by omega) (by omega)
  (fun i j hi hij hj => by
   obtain ⟨x, hx, hxm⟩ := hget ((i + j) / 2) (by omega) (by omega)
   have hx' : (P ++ (u ++ ([y] ++ Q)))[(i + j) / 2]? = some x := by rw [hL _ (by omega) (by omega)]; exact hx
   obtain ⟨r, c1, c2, _⟩ := Iu (hc x hxm)
   rw [IG, AL, decide_eq_true hij]
   simp only [ADL i j (by omega), ADK i j (by omega), AY hx', AY hy, BD hx', BD hy, AQd, c1, c2]
   have hPb : Pb ((i + j) / 2) = !Bk (bef y x) := by
    show (!Bk (bef y (u.getD ((i + j) / 2 - P.length) zT))) = _
    rw [List.getD_eq_getElem?_getD, hx]; rfl
   rw [hPb, AM (by omega)]
   cases Bk (bef y x) <;> rfl)
  (fun i hi hj => by rw [IG, AL, decide_eq_false (by omega)])
  (fun a b ha hab hb hp => by
   by_cases he : a = b
   ·rw [he]; exact hp
   ·obtain ⟨x, hx, _⟩ := hget a (by omega) (by omega)
    obtain ⟨z, hz, _⟩ := hget b (by omega) (by omega)
    have hp' : ¬ bef y z := fun hb' => by
     have : (!Bk (bef y (u.getD (b - P.length) zT))) = true := hp
     rw [List.getD_eq_getElem?_getD, hz] at this
     have h2 := (BS _).2 hb'
     simp only [Option.getD_some] at this
     rw [h2] at this; cases this
    show (!Bk (bef y (u.getD (a - P.length) zT))) = true
    rw [List.getD_eq_getElem?_getD, hx]
    simp only [Option.getD_some, Bool.not_eq_true']
    rw [← Bool.not_eq_true, BS]
    exact fun h => hp' (h.trans (Dg hu hx hz (by omega))))
 obtain ⟨j, rfl⟩ : ∃ j, k = P.length + j := ⟨k - P.length, by omega⟩
 have hj : j ≤ u.length := by omega
 have hsp : u.take j ++ u.drop j = u := List.take_append_drop _ _
 have hlt : (u.take j).length = j := by rw [List.length_take]; omega
 have hld : (u.drop j).length = u.length - j := List.length_drop
 have hm := AIp self y (P.length + j) (P ++ u.take j) (by simp [hlt]) (u.drop j).length (u.drop j) Q (P.length + u.length) many rfl (by rw [List.length_append, hlt]; omega) (by simp only [many]; omega) (by rw [List.length_append, hlt]; omega)
 rw [← Ag] at hm
 have e1 : (P ++ u.take j) ++ (u.drop j ++ (y :: Q)) = P ++ (u ++ ([y] ++ Q)) := by
  rw [List.append_assoc, ← List.append_assoc (u.take j), hsp]; rfl
 rw [e1] at hm
 refine ⟨u.take j ++ y :: u.drop j, ?_, ?_, ?_⟩
 ·rw [JO, A5 ⟨by omega, by omega⟩, show P.length + u.length - P.length = u.length by omega, Av, decide_eq_false (by omega), A5 ⟨by omega, by omega⟩, show P.length + u.length + 1 - (P.length + u.length) = 1 by omega, Av, decide_eq_true (by omega)]
  simp only [k5, hm]
  simp
 ·refine List.perm_middle.trans ?_
  rw [hsp]
  exact (List.perm_append_singleton y u).symm
 ·rw [List.pairwise_append, List.pairwise_cons]
  have hu' := hu
  rw [← hsp, List.pairwise_append] at hu'
  have before : ∀ x ∈ u.take j, bef x y := fun x hx => by
   obtain ⟨i, hi, rfl⟩ := List.getElem_of_mem hx
   rw [hlt] at hi
   have := k3 (P.length + i) (by omega) (by omega)
   have this : (!Bk (bef y (u.getD (P.length + i - P.length) zT))) = true := this
   rw [show P.length + i - P.length = i by omega, List.getD_eq_getElem?_getD, List.getElem?_eq_getElem (show i < u.length by omega)] at this
   simp only [Option.getD_some, Bool.not_eq_true'] at this
   rw [List.getElem_take]
   obtain ⟨_, _, _, c3⟩ := Iu (hc u[i] (List.getElem_mem _))
   exact c3 this
  have after : ∀ x ∈ u.drop j, bef y x := fun x hx => by
   obtain ⟨i, hi, rfl⟩ := List.getElem_of_mem hx
   rw [hld] at hi
   have := k4 (P.length + (j + i)) (by omega) (by omega)
   have this : (!Bk (bef y (u.getD (P.length + (j + i) - P.length) zT))) = false := this
   rw [show P.length + (j + i) - P.length = j + i by omega, List.getD_eq_getElem?_getD, List.getElem?_eq_getElem (show j + i < u.length by omega)] at this
   simp only [Option.getD_some, Bool.not_eq_false'] at this
   rw [List.getElem_drop]
   exact (BS _).1 this
  refine ⟨hu'.1, ⟨after, hu'.2.1⟩, fun x hx z hz => ?_⟩
  rcases List.mem_cons.1 hz with rfl | hz
  ·exact before x hx
  ·exact hu'.2.2 x hx z hz
noncomputable section
def Kj (self : (List Tie × Int × Int × Int × Unit) → Option ((List Tie × Unit))) (z : List Tie) (b mid n st : Int) : Option ((List Tie × Unit)) :=
 match (ilt mid (IntKind.wrap .i64 (n - st))) with
 | true => match (ilt (IntKind.wrap .i64 (n - st)) b) with
  | true => match self (z, mid, (IntKind.wrap .i64 (n - st)), b, ()) with
   | none => none
   | some (q, _) => some (q, ())
  | false => some (z, ())
 | false => some (z, ())
def Kk (self : (List Tie × Int × Int × Int × Unit) → Option ((List Tie × Unit))) (y : List Tie) (a b mid n st : Int) : Option ((List Tie × Unit)) :=
 match (ilt a st) with
 | true => match (ilt st mid) with
  | true => match self (y, a, st, mid, ()) with
   | none => none
   | some (z, _) => Kj self z b mid n st
  | false => Kj self y b mid n st
 | false => Kj self y b mid n st
def Kl (self : (List Tie × Int × Int × Int × Unit) → Option ((List Tie × Unit))) (l : List Tie) (a m b mid n st : Int) : Option ((List Tie × Unit)) :=
 match (ilt st m) with
 | true => match (ilt m (IntKind.wrap .i64 (n - st))) with
  | true => match AJj (l, st, m, (IntKind.wrap .i64 (n - st)), ()) with
   | none => none
   | some (y, _) => Kk self y a b mid n st
  | false => Kk self l a b mid n st
 | false => Kk self l a b mid n st
end
def AMJ (self : (List Tie × Int × Int × Int × Unit) → Option ((List Tie × Unit))) (m : Nat) : Prop :=
 ∀ (P u v Q : List Tie), 1 ≤ u.length → 1 ≤ v.length → u.Pairwise bef → v.Pairwise bef → (∀ x ∈ u, ∀ y ∈ v, ahead x y) → u.length + v.length ≤ m → P.length + u.length + v.length + Q.length < 268435456 →
  ∃ w, self (P ++ (u ++ (v ++ Q)), (P.length : Int), ((P.length + u.length : Nat) : Int), ((P.length + u.length + v.length : Nat) : Int), ()) = some (P ++ (w ++ Q), ()) ∧ Mrg u v w
theorem Mrg.AGs {v : List Tie} (h : v.Pairwise bef) : Mrg [] v v := ⟨List.Perm.refl _, h⟩
theorem Mrg.Z0 {u : List Tie} (h : u.Pairwise bef) : Mrg u [] u := ⟨by rw [List.append_nil], h⟩
theorem Mrg.append {u1 u2 v1 v2 w1 w2 : List Tie} (h1 : Mrg u1 v1 w1) (h2 : Mrg u2 v2 w2) (hu : (u1 ++ u2).Pairwise bef) (hv : (v1 ++ v2).Pairwise bef) (c1 : ∀ x ∈ u1, ∀ y ∈ v2, bef x y) (c2 : ∀ y ∈ v1, ∀ x ∈ u2, bef y x) : Mrg (u1 ++ u2) (v1 ++ v2) (w1 ++ w2) := by
 rw [List.pairwise_append] at hu hv
 refine ⟨?_, ?_⟩
 ·refine (h1.1.append h2.1).trans ?_
  rw [List.append_assoc, List.append_assoc]
  refine List.Perm.append_left _ ?_
  rw [← List.append_assoc, ← List.append_assoc]
  exact List.Perm.append_right _ List.perm_append_comm
 ·rw [List.pairwise_append]
  refine ⟨h1.2, h2.2, fun x hx y hy => ?_⟩
  have hx := List.mem_append.1 (h1.1.mem_iff.1 hx)
  have hy := List.mem_append.1 (h2.1.mem_iff.1 hy)
  rcases hx with hx | hx <;> rcases hy with hy | hy
  ·exact hu.2.2 x hx y hy
  ·exact c1 x hx y hy
  ·exact c2 x hx y hy
  ·exact hv.2.2 x hx y hy
theorem AOS {self : (List Tie × Int × Int × Int × Unit) → Option ((List Tie × Unit))} {k : Nat} (hM : AMJ self k) (P u1 u2 v1 v2 Q : List Tie) (hu : (u1 ++ u2).Pairwise bef) (hv : (v1 ++ v2).Pairwise bef) (c1 : ∀ x ∈ u1, ∀ y ∈ v2, bef x y) (c2 : ∀ y ∈ v1, ∀ x ∈ u2, bef y x)
  (ha : ∀ x ∈ u1 ++ u2, ∀ y ∈ v1 ++ v2, ahead x y) (k1 : u1.length + v1.length ≤ k) (k2 : u2.length + v2.length ≤ k) (hs : P.length + u1.length + u2.length + v1.length + v2.length + Q.length < 268435456) :
  ∃ w, Kl self (P ++ ((u1 ++ u2) ++ ((v1 ++ v2) ++ Q))) (P.length : Int) ((P.length + u1.length + u2.length : Nat) : Int) ((P.length + u1.length + u2.length + v1.length + v2.length : Nat) : Int) ((P.length + u1.length + v1.length : Nat) : Int) (((P.length + u1.length + v1.length) + (P.length + u1.length + u2.length) : Nat) : Int) ((P.length + u1.length : Nat) : Int) = some (P ++ (w ++ Q), ()) ∧ Mrg (u1 ++ u2) (v1 ++ v2) w := by
 have hend : IntKind.wrap .i64 ((((P.length + u1.length + v1.length) + (P.length + u1.length + u2.length) : Nat) : Int) - ((P.length + u1.length : Nat) : Int)) = ((P.length + u1.length + u2.length + v1.length : Nat) : Int) := by
  rw [A5 ⟨by omega, by omega⟩]; congr 1; omega
 have pu := hu
 have pv := hv
 rw [List.pairwise_append] at pu pv
 have hT : Kl self (P ++ ((u1 ++ u2) ++ ((v1 ++ v2) ++ Q))) (P.length : Int) ((P.length + u1.length + u2.length : Nat) : Int) ((P.length + u1.length + u2.length + v1.length + v2.length : Nat) : Int) ((P.length + u1.length + v1.length : Nat) : Int) (((P.length + u1.length + v1.length) + (P.length + u1.length + u2.length) : Nat) : Int) ((P.length + u1.length : Nat) : Int) =
   Kk self (P ++ (u1 ++ (v1 ++ (u2 ++ (v2 ++ Q))))) (P.length : Int) ((P.length + u1.length + u2.length + v1.length + v2.length : Nat) : Int) ((P.length + u1.length + v1.length : Nat) : Int) (((P.length + u1.length + v1.length) + (P.length + u1.length + u2.length) : Nat) : Int) ((P.length + u1.length : Nat) : Int) := by
  rw [Kl, hend, AL, AL]
  by_cases q1 : 1 ≤ u2.length
  ·rw [decide_eq_true (by omega)]
   by_cases q2 : 1 ≤ v1.length
   ·rw [decide_eq_true (by omega)]
    have hr := ASU (P ++ u1) u2 v1 (v2 ++ Q) q1 q2 (by simp only [List.length_append]; omega)
    have e1 : (P ++ u1) ++ (u2 ++ (v1 ++ (v2 ++ Q))) = P ++ ((u1 ++ u2) ++ ((v1 ++ v2) ++ Q)) := by simp
    have e2 : (P ++ u1) ++ (v1 ++ (u2 ++ (v2 ++ Q))) = P ++ (u1 ++ (v1 ++ (u2 ++ (v2 ++ Q)))) := by simp
    rw [e1, e2, List.length_append] at hr
    simp only [hr]
   ·rw [decide_eq_false (by omega)]
    have : v1 = [] := List.eq_nil_of_length_eq_zero (by omega)
    subst this
    simp
  ·rw [decide_eq_false (by omega)]
   have : u2 = [] := List.eq_nil_of_length_eq_zero (by omega)
   subst this
   simp
 have h1 : ∃ w1, Mrg u1 v1 w1 ∧ Kk self (P ++ (u1 ++ (v1 ++ (u2 ++ (v2 ++ Q))))) (P.length : Int) ((P.length + u1.length + u2.length + v1.length + v2.length : Nat) : Int) ((P.length + u1.length + v1.length : Nat) : Int) (((P.length + u1.length + v1.length) + (P.length + u1.length + u2.length) : Nat) : Int) ((P.length + u1.length : Nat) : Int) =
   Kj self (P ++ (w1 ++ (u2 ++ (v2 ++ Q)))) ((P.length + u1.length + u2.length + v1.length + v2.length : Nat) : Int) ((P.length + u1.length + v1.length : Nat) : Int) (((P.length + u1.length + v1.length) + (P.length + u1.length + u2.length) : Nat) : Int) ((P.length + u1.length : Nat) : Int) := by
  rw [Kk, AL, AL]
  by_cases q1 : 1 ≤ u1.length
  ·rw [decide_eq_true (by omega)]
   by_cases q2 : 1 ≤ v1.length
   ·rw [decide_eq_true (by omega)]
    obtain ⟨w, e, hw⟩ := hM P u1 v1 (u2 ++ (v2 ++ Q)) q1 q2 pu.1 pv.1 (fun x hx y hy => ha x (by simp [hx]) y (by simp [hy])) k1 (by simp only [List.length_append]; omega)
    refine ⟨w, hw, ?_⟩
    simp only [e]
   ·rw [decide_eq_false (by omega)]
    have : v1 = [] := List.eq_nil_of_length_eq_zero (by omega)
    subst this
    exact ⟨u1, Mrg.Z0 pu.1, by simp⟩
  ·rw [decide_eq_false (by omega)]
   have : u1 = [] := List.eq_nil_of_length_eq_zero (by omega)
   subst this
   exact ⟨v1, Mrg.AGs pv.1, by simp⟩
 obtain ⟨w1, m1, e1⟩ := h1
 have lw1 : w1.length = u1.length + v1.length := by rw [m1.1.length_eq, List.length_append]
 have h2 : ∃ w2, Mrg u2 v2 w2 ∧ Kj self (P ++ (w1 ++ (u2 ++ (v2 ++ Q)))) ((P.length + u1.length + u2.length + v1.length + v2.length : Nat) : Int) ((P.length + u1.length + v1.length : Nat) : Int) (((P.length + u1.length + v1.length) + (P.length + u1.length + u2.length) : Nat) : Int) ((P.length + u1.length : Nat) : Int) = some (P ++ ((w1 ++ w2) ++ Q), ()) := by
  rw [Kj, hend, AL, AL]
  by_cases q1 : 1 ≤ u2.length
  ·rw [decide_eq_true (by omega)]
   by_cases q2 : 1 ≤ v2.length
   ·rw [decide_eq_true (by omega)]
    obtain ⟨w, e, hw⟩ := hM (P ++ w1) u2 v2 Q q1 q2 pu.2.1 pv.2.1 (fun x hx y hy => ha x (by simp [hx]) y (by simp [hy])) k2 (by simp only [List.length_append]; omega)
    refine ⟨w, hw, ?_⟩
    rw [List.length_append, lw1, List.append_assoc, List.append_assoc, show P.length + (u1.length + v1.length) = P.length + u1.length + v1.length by omega, show P.length + u1.length + v1.length + u2.length = P.length + u1.length + u2.length + v1.length by omega] at e
    simp only [e]
    simp
   ·rw [decide_eq_false (by omega)]
    have : v2 = [] := List.eq_nil_of_length_eq_zero (by omega)
    subst this
    exact ⟨u2, Mrg.Z0 pu.2.1, by simp⟩
  ·rw [decide_eq_false (by omega)]
   have : u2 = [] := List.eq_nil_of_length_eq_zero (by omega)
   subst this
   exact ⟨v2, Mrg.AGs pv.2.1, by simp⟩
 obtain ⟨w2, m2, e2⟩ := h2
 exact ⟨w1 ++ w2, by rw [hT, e1, e2], m1.append m2 hu hv c1 c2⟩
end Go.Pev.Pl
end
section
namespace Go.Pev.Pl
open Tok
set_option linter.unusedSimpArgs false
set_option maxRecDepth 100000
theorem AE5 (self : (List Tie × Int × Int × Int × Unit) → Option ((List Tie × Unit))) (P u v Q : List Tie) (mid lo hi : Nat) (hu : u.Pairwise bef) (hv : v.Pairwise bef) (ha : ∀ x ∈ u, ∀ y ∈ v, ahead x y)
  (h1 : P.length ≤ lo) (h2 : lo ≤ hi) (h3 : hi ≤ P.length + u.length) (h4 : hi ≤ mid) (h5 : mid ≤ v.length + lo) (hs : P.length + u.length + v.length + Q.length < 268435456) (hmid : mid ≤ P.length + u.length + v.length) :
  ∃ k, lo ≤ k ∧ k ≤ hi ∧
   (∀ c, lo ≤ c → c < k → ∃ x y, u[c - P.length]? = some x ∧ v[mid - (c + 1)]? = some y ∧ bef x y) ∧
   (∀ c, k ≤ c → c < hi → ∃ x y, u[c - P.length]? = some x ∧ v[mid - (c + 1)]? = some y ∧ bef y x) ∧
   AR (Dp self) many (P ++ (u ++ (v ++ Q)), (P.length : Int), ((P.length + u.length : Nat) : Int), ((P.length + u.length + v.length : Nat) : Int), (mid : Int), ((mid + (P.length + u.length) : Nat) : Int), (lo : Int), (hi : Int), ((mid + (P.length + u.length) - 1 : Nat) : Int), ()) =
    some (.inl (P ++ (u ++ (v ++ Q)), (P.length : Int), ((P.length + u.length : Nat) : Int), ((P.length + u.length + v.length : Nat) : Int), (mid : Int), ((mid + (P.length + u.length) : Nat) : Int), (k : Int), ())) := by
 have gu : ∀ c, lo ≤ c → c < hi → ∃ x, u[c - P.length]? = some x ∧ x ∈ u ∧ (P ++ (u ++ (v ++ Q)))[c]? = some x := fun c c1 c2 => by
  have hh : c - P.length < u.length := by omega
  refine ⟨_, List.getElem?_eq_getElem hh, List.getElem_mem hh, ?_⟩
  rw [List.getElem?_append_right (by omega), List.getElem?_append_left (by omega), List.getElem?_eq_getElem hh]
 have gv : ∀ c, lo ≤ c → c < hi → ∃ y, v[mid - (c + 1)]? = some y ∧ y ∈ v ∧ (P ++ (u ++ (v ++ Q)))[mid + (P.length + u.length) - 1 - c]? = some y := fun c c1 c2 => by
  have hh : mid - (c + 1) < v.length := by omega
  refine ⟨_, List.getElem?_eq_getElem hh, List.getElem_mem hh, ?_⟩
  rw [List.getElem?_append_right (by omega), List.getElem?_append_right (by omega), List.getElem?_append_left (by omega)]
  rw [show mid + (P.length + u.length) - 1 - c - P.length - u.length = mid - (c + 1) by omega, List.getElem?_eq_getElem hh]
 let Pb : Nat → Bool := fun c => !Bk (bef (v.getD (mid - (c + 1)) zT) (u.getD (c - P.length) zT))
 have hPb : ∀ c x y, u[c - P.length]? = some x → v[mid - (c + 1)]? = some y → Pb c = !Bk (bef y x) := fun c x y hx hy => by
  show (!Bk (bef (v.getD (mid - (c + 1)) zT) (u.getD (c - P.length) zT))) = _
  rw [List.getD_eq_getElem?_getD, List.getD_eq_getElem?_getD, hx, hy]; rfl
 obtain ⟨k, k1, k2, k3, k4, k5⟩ := AXL (step := Dp self) (fun i j => (P ++ (u ++ (v ++ Q)), (P.length : Int), ((P.length + u.length : Nat) : Int), ((P.length + u.length + v.length : Nat) : Int), (mid : Int), ((mid + (P.length + u.length) : Nat) : Int), (i : Int), (j : Int), ((mid + (P.length + u.length) - 1 : Nat) : Int), ())) Pb
  (fun i => .inl (P ++ (u ++ (v ++ Q)), (P.length : Int), ((P.length + u.length : Nat) : Int), ((P.length + u.length + v.length : Nat) : Int), (mid : Int), ((mid + (P.length + u.length) : Nat) : Int), (i : Int), ())) lo hi h2 (by omega)
  (fun i j hi' hij hj => by
   obtain ⟨x, hx, hxm, hx'⟩ := gu ((i + j) / 2) (by omega) (by omega)
   obtain ⟨y, hy, hym, hy'⟩ := gv ((i + j) / 2) (by omega) (by omega)
   obtain ⟨r, c1, c2, _⟩ := Iu (ha x hxm y hym)
   rw [Dp, AL, decide_eq_true hij]
   simp only [ADL i j (by omega), ADK i j (by omega)]
   rw [A5 ⟨by omega, by omega⟩]
   simp only [AY hx', AY hy', BD hx', BD hy', AQd, c1, c2]
   rw [hPb _ x y hx hy, AM (by omega)]
   cases Bk (bef y x) <;> rfl)
  (fun i _ _ => by rw [Dp, AL, decide_eq_false (by omega)])
  (fun a b ha' hab hb hp => by
   by_cases he : a = b
   ·rw [he]; exact hp
   ·obtain ⟨x, hx, _, _⟩ := gu a (by omega) (by omega)
    obtain ⟨x', hx', _, _⟩ := gu b (by omega) (by omega)
    obtain ⟨y, hy, _, _⟩ := gv a (by omega) (by omega)
    obtain ⟨y', hy', _, _⟩ := gv b (by omega) (by omega)
    rw [hPb b x' y' hx' hy', Bool.not_eq_true', ← Bool.not_eq_true, BS] at hp
    rw [hPb a x y hx hy, Bool.not_eq_true', ← Bool.not_eq_true, BS]
    exact fun h => hp (((Dg hv hy' hy (by omega)).trans h).trans (Dg hu hx hx' (by omega))))
 refine ⟨k, k1, k2, fun c c1 c2 => ?_, fun c c1 c2 => ?_, k5⟩
 ·obtain ⟨x, hx, hxm, _⟩ := gu c c1 (by omega)
  obtain ⟨y, hy, hym, _⟩ := gv c c1 (by omega)
  have := k3 c c1 c2
  rw [hPb c x y hx hy, Bool.not_eq_true'] at this
  obtain ⟨_, _, _, c3⟩ := Iu (ha x hxm y hym)
  exact ⟨x, y, hx, hy, c3 this⟩
 ·obtain ⟨x, hx, hxm, _⟩ := gu c (by omega) c2
  obtain ⟨y, hy, hym, _⟩ := gv c (by omega) c2
  have := k4 c c1 c2
  rw [hPb c x y hx hy, Bool.not_eq_false'] at this
  exact ⟨x, y, hx, hy, (BS _).1 this⟩
theorem ARj {self : (List Tie × Int × Int × Int × Unit) → Option ((List Tie × Unit))} {kk : Nat} (hM : AMJ self kk) (P u v Q : List Tie) (hu : u.Pairwise bef) (hv : v.Pairwise bef) (ha : ∀ x ∈ u, ∀ y ∈ v, ahead x y) (hu2 : 2 ≤ u.length) (hv2 : 2 ≤ v.length) (hk : u.length + v.length ≤ 2 * kk) (hs : P.length + u.length + v.length + Q.length < 268435456) :
  ∃ w, JO self (P ++ (u ++ (v ++ Q)), (P.length : Int), ((P.length + u.length : Nat) : Int), ((P.length + u.length + v.length : Nat) : Int), ()) = some (P ++ (w ++ Q), ()) ∧ Mrg u v w := by
 obtain ⟨mid, hmid⟩ : ∃ mid, mid = (P.length + (P.length + u.length + v.length)) / 2 := ⟨_, rfl⟩
 have fin : ∀ lo hi : Nat, P.length ≤ lo → lo ≤ hi → hi ≤ P.length + u.length → hi ≤ mid → mid ≤ v.length + lo → (lo = P.length ∨ lo + v.length = mid) → (hi = P.length + u.length ∨ hi = mid) →
   ∃ w k : _, AR (Dp self) many (P ++ (u ++ (v ++ Q)), (P.length : Int), ((P.length + u.length : Nat) : Int), ((P.length + u.length + v.length : Nat) : Int), (mid : Int), ((mid + (P.length + u.length) : Nat) : Int), (lo : Int), (hi : Int), ((mid + (P.length + u.length) - 1 : Nat) : Int), ()) =
    some (.inl (P ++ (u ++ (v ++ Q)), (P.length : Int), ((P.length + u.length : Nat) : Int), ((P.length + u.length + v.length : Nat) : Int), (mid : Int), ((mid + (P.length + u.length) : Nat) : Int), (k : Int), ())) ∧
    Kl self (P ++ (u ++ (v ++ Q))) (P.length : Int) ((P.length + u.length : Nat) : Int) ((P.length + u.length + v.length : Nat) : Int) (mid : Int) ((mid + (P.length + u.length) : Nat) : Int) (k : Int) = some (P ++ (w ++ Q), ()) ∧ Mrg u v w := by
  intro lo hi a1 a2 a3 a4 a5 a6 a7
  obtain ⟨k, k1, k2, k3, k4, k5⟩ := AE5 self P u v Q mid lo hi hu hv ha a1 a2 a3 a4 a5 hs (by omega)
  have su : u.take (k - P.length) ++ u.drop (k - P.length) = u := List.take_append_drop _ _
  have sv : v.take (mid - k) ++ v.drop (mid - k) = v := List.take_append_drop _ _
  have l1 : (u.take (k - P.length)).length = k - P.length := by rw [List.length_take]; omega
  have l2 : (u.drop (k - P.length)).length = u.length - (k - P.length) := List.length_drop
  have l3 : (v.take (mid - k)).length = mid - k := by rw [List.length_take]; omega
  have l4 : (v.drop (mid - k)).length = v.length - (mid - k) := List.length_drop
  have c1 : ∀ x ∈ u.take (k - P.length), ∀ y ∈ v.drop (mid - k), bef x y := by
   intro x hx y hy
   obtain ⟨i, hi1, rfl⟩ := List.getElem_of_mem hx
   obtain ⟨j, hj1, rfl⟩ := List.getElem_of_mem hy
   rw [l1] at hi1
   rw [l4] at hj1
   rw [List.getElem_take, List.getElem_drop]
   have hkl : lo < k := by omega
   obtain ⟨x', y', hx', hy', hb⟩ := k3 (k - 1) (by omega) (by omega)
   rw [show mid - (k - 1 + 1) = mid - k by omega] at hy'
   have b1 : u[i] = x' ∨ bef u[i] x' := by
    by_cases he : i = k - 1 - P.length
    ·left
     have := List.getElem?_eq_getElem (show i < u.length by omega)
     rw [← he, this] at hx'
     injection hx'
    ·exact .inr (Dg hu (List.getElem?_eq_getElem (show i < u.length by omega)) hx' (by omega))
   have b2 : y' = v[mid - k + j] ∨ bef y' v[mid - k + j] := by
    by_cases he : j = 0
    ·left
     subst he
     have := List.getElem?_eq_getElem (show mid - k < v.length by omega)
     rw [this] at hy'
     injection hy' with hy'
     rw [← hy']
     congr 1
    ·exact .inr (Dg hv hy' (List.getElem?_eq_getElem (show mid - k + j < v.length by omega)) (by omega))
   rcases b1 with b1 | b1 <;> rcases b2 with b2 | b2
   ·rw [b1, ← b2]; exact hb
   ·rw [b1]; exact hb.trans b2
   ·rw [← b2]; exact b1.trans hb
   ·exact (b1.trans hb).trans b2
  have c2 : ∀ y ∈ v.take (mid - k), ∀ x ∈ u.drop (k - P.length), bef y x := by
   intro y hy x hx
   obtain ⟨i, hi1, rfl⟩ := List.getElem_of_mem hx
   obtain ⟨j, hj1, rfl⟩ := List.getElem_of_mem hy
   rw [l2] at hi1
   rw [l3] at hj1
   rw [List.getElem_take, List.getElem_drop]
   have hkl : k < hi := by omega
   obtain ⟨x', y', hx', hy', hb⟩ := k4 k (by omega) hkl
   have b1 : x' = u[k - P.length + i] ∨ bef x' u[k - P.length + i] := by
    by_cases he : i = 0
    ·left
     subst he
     have := List.getElem?_eq_getElem (show k - P.length < u.length by omega)
     rw [this] at hx'
     injection hx' with hx'
     rw [← hx']
     congr 1
    ·exact .inr (Dg hu hx' (List.getElem?_eq_getElem (show k - P.length + i < u.length by omega)) (by omega))
   have b2 : v[j] = y' ∨ bef v[j] y' := by
    by_cases he : j = mid - (k + 1)
    ·left
     have := List.getElem?_eq_getElem (show j < v.length by omega)
     rw [← he, this] at hy'
     injection hy'
    ·exact .inr (Dg hv (List.getElem?_eq_getElem (show j < v.length by omega)) hy' (by omega))
   rcases b1 with b1 | b1 <;> rcases b2 with b2 | b2
   ·rw [b2, ← b1]; exact hb
   ·rw [← b1]; exact b2.trans hb
   ·rw [b2]; exact hb.trans b1
   ·exact (b2.trans hb).trans b1
  obtain ⟨w, e, hw⟩ := AOS hM P (u.take (k - P.length)) (u.drop (k - P.length)) (v.take (mid - k)) (v.drop (mid - k)) Q (by rw [su]; exact hu) (by rw [sv]; exact hv) c1 c2 (by rw [su, sv]; exact ha) (by rw [l1, l3]; omega) (by rw [l2, l4]; omega) (by rw [l1, l2, l3, l4]; omega)
  rw [su, sv] at e hw
  rw [l1, l2, l3, l4, show P.length + (k - P.length) + (u.length - (k - P.length)) = P.length + u.length by omega, show P.length + u.length + (mid - k) + (v.length - (mid - k)) = P.length + u.length + v.length by omega, show P.length + (k - P.length) + (mid - k) = mid by omega, show P.length + (k - P.length) = k by omega] at e
  exact ⟨w, k, k5, e, hw⟩
 have hd : JO self (P ++ (u ++ (v ++ Q)), (P.length : Int), ((P.length + u.length : Nat) : Int), ((P.length + u.length + v.length : Nat) : Int), ()) =
   (match ieq (IntKind.wrap .i64 (((P.length + u.length : Nat) : Int) - (P.length : Int))) (1 : Int) with
   | true => (match AR (II self) many (P ++ (u ++ (v ++ Q)), (P.length : Int), ((P.length + u.length : Nat) : Int), ((P.length + u.length + v.length : Nat) : Int), ()) with
    | none => none
    | some r => match r with
     | .inl (o0, o1, o2, _) => match AR (IH self) many (o0, o2, o1, ()) with
      | none => none
      | some r => match r with
       | .inl (o3, _) => some (o3, ())
       | .inr _ => none
     | .inr _ => none)
   | false => match ieq (IntKind.wrap .i64 (((P.length + u.length + v.length : Nat) : Int) - ((P.length + u.length : Nat) : Int))) (1 : Int) with
    | true => (match AR (IG self) many (P ++ (u ++ (v ++ Q)), ((P.length + u.length : Nat) : Int), (P.length : Int), ((P.length + u.length : Nat) : Int), ()) with
     | none => none
     | some r => match r with
      | .inl (o4, o5, o6, _) => match AR (IF self) many (o4, o6, o5, ()) with
       | none => none
       | some r => match r with
        | .inl (o7, _) => some (o7, ())
        | .inr _ => none
      | .inr _ => none)
    | false => match shr? .u64 (IntKind.wrap .u64 (IntKind.wrap .i64 ((P.length : Int) + ((P.length + u.length + v.length : Nat) : Int)))) (1 : Int) with
     | none => none
     | some x8 => match (ilt (IntKind.wrap .i64 x8) ((P.length + u.length : Nat) : Int)) with
      | true => (match AR (Dp self) many (P ++ (u ++ (v ++ Q)), (P.length : Int), ((P.length + u.length : Nat) : Int), ((P.length + u.length + v.length : Nat) : Int), (IntKind.wrap .i64 x8), (IntKind.wrap .i64 ((IntKind.wrap .i64 x8) + ((P.length + u.length : Nat) : Int))), (IntKind.wrap .i64 ((IntKind.wrap .i64 ((IntKind.wrap .i64 x8) + ((P.length + u.length : Nat) : Int))) - ((P.length + u.length + v.length : Nat) : Int))), (IntKind.wrap .i64 x8), (IntKind.wrap .i64 ((IntKind.wrap .i64 ((IntKind.wrap .i64 x8) + ((P.length + u.length : Nat) : Int))) - (1 : Int))), ()) with
       | none => none
       | some r => match r with
        | .inl (o9, o10, o11, o12, o13, o14, o15, _) => Kl self o9 o10 o11 o12 o13 o14 o15
        | .inr _ => none)
      | false => (match AR (Dp self) many (P ++ (u ++ (v ++ Q)), (P.length : Int), ((P.length + u.length : Nat) : Int), ((P.length + u.length + v.length : Nat) : Int), (IntKind.wrap .i64 x8), (IntKind.wrap .i64 ((IntKind.wrap .i64 x8) + ((P.length + u.length : Nat) : Int))), (P.length : Int), ((P.length + u.length : Nat) : Int), (IntKind.wrap .i64 ((IntKind.wrap .i64 ((IntKind.wrap .i64 x8) + ((P.length + u.length : Nat) : Int))) - (1 : Int))), ()) with
       | none => none
       | some r => match r with
        | .inl (o9, o10, o11, o12, o13, o14, o15, _) => Kl self o9 o10 o11 o12 o13 o14 o15
        | .inr _ => none)) := rfl
 rw [hd, A5 ⟨by omega, by omega⟩, show P.length + u.length - P.length = u.length by omega, Av, decide_eq_false (by omega), A5 ⟨by omega, by omega⟩, show P.length + u.length + v.length - (P.length + u.length) = v.length by omega, Av, decide_eq_false (by omega), ADL P.length (P.length + u.length + v.length) (by omega)]
 simp only []
 rw [ADK P.length (P.length + u.length + v.length) (by omega), ← hmid, wrap_add (by omega), Ap ⟨by omega, by omega⟩, AL]
 by_cases hlt : mid < P.length + u.length
 ·rw [decide_eq_true hlt, A5 ⟨by omega, by omega⟩]
  obtain ⟨w, k, e1, e2, hw⟩ := fin (mid + (P.length + u.length) - (P.length + u.length + v.length)) mid (by omega) (by omega) (by omega) (by omega) (by omega) (.inr (by omega)) (.inr rfl)
  simp only [e1, e2]
  exact ⟨w, rfl, hw⟩
 ·rw [decide_eq_false hlt]
  obtain ⟨w, k, e1, e2, hw⟩ := fin P.length (P.length + u.length) (Nat.le_refl _) (by omega) (Nat.le_refl _) (by omega) (by omega) (.inl rfl) (.inl rfl)
  simp only [e1, e2]
  exact ⟨w, rfl, hw⟩
end Go.Pev.Pl
end
section
namespace Go.Pev.Pl
open Tok
set_option linter.unusedSimpArgs false
set_option maxRecDepth 100000
theorem AV0 (P Q : List Tie) (a b i0 : Int) (ha : a = (P.length : Int)) : ∀ (m : Nat) (w R : List Tie) (x : Tie) (j cnt : Nat), w.length = m → P.length + w.length = j → w.length < cnt → P.length + w.length + R.length < 268435456 → w.Pairwise bef → (∀ y ∈ w, ahead y x) →
  ∃ w', AU (Ew zT Bq) cnt (P ++ (w ++ (x :: R)), a, b, i0, (j : Int), ()) = some (.inl (P ++ (w' ++ R), a, b, i0, ())) ∧ w'.Perm (w ++ [x]) ∧ w'.Pairwise bef := by
 subst ha
 intro m
 induction m with
 | zero =>
  intro w R x j cnt hm hj hc hs hw hax
  obtain ⟨cnt, rfl⟩ : ∃ c, cnt = c + 1 := ⟨cnt - 1, by omega⟩
  have : w = [] := List.eq_nil_of_length_eq_zero hm
  subst this
  simp only [List.length_nil] at hj
  refine ⟨[x], ?_, List.Perm.refl _, by simp⟩
  rw [AU, Ew, AL, decide_eq_false (by omega)]
  rfl
 | succ m ih =>
  intro w R x j cnt hm hj hc hs hw hax
  obtain ⟨cnt, rfl⟩ : ∃ c, cnt = c + 1 := ⟨cnt - 1, by omega⟩
  obtain ⟨u, y, rfl⟩ : ∃ u y, w = u ++ [y] := by
   have hne : w ≠ [] := fun h => by rw [h] at hm; cases hm
   exact ⟨w.dropLast, w.getLast hne, (List.dropLast_concat_getLast hne).symm⟩
  rw [List.length_append, List.length_singleton] at hm hj hc hs
  have e1 : P ++ (u ++ [y] ++ (x :: R)) = (P ++ u) ++ y :: (x :: R) := by simp
  have e2 : P ++ (u ++ [y] ++ (x :: R)) = (P ++ (u ++ [y])) ++ x :: R := by simp
  have g1 := CR e1 (i := j - 1) (by simp; omega)
  have g2 := CR e2 (i := j) (by simp; omega)
  have s1 : Ak (P ++ (u ++ [y] ++ (x :: R))) (AG (j : Int)) y = (P ++ (u ++ [y])) ++ y :: R := F6 e2 (by simp; omega)
  have e3 : (P ++ (u ++ [y])) ++ y :: R = (P ++ u) ++ y :: (y :: R) := by simp
  have g3 := CR e3 (i := j - 1) (by simp; omega)
  have s2 : Ak ((P ++ (u ++ [y])) ++ y :: R) (AG ((j - 1 : Nat) : Int)) x = (P ++ u) ++ x :: (y :: R) := F6 e3 (by simp; omega)
  have hay := hax y (by simp)
  obtain ⟨r, c1, c2, c3⟩ := Iu hay
  rw [List.pairwise_append] at hw
  rw [AU, Ew, AL, decide_eq_true (by omega)]
  simp only [Ap (show 1 ≤ j ∧ j < 9223372036854775808 by omega), AY g1, AY g2, BD g1, BD g2, c1, c2]
  cases hb : Bk (bef x y)
  ·have hyx := c3 hb
   refine ⟨u ++ [y] ++ [x], by simp, List.Perm.refl _, ?_⟩
   rw [List.pairwise_append, List.pairwise_append]
   refine ⟨hw, by simp, fun z hz q hq => ?_⟩
   rw [List.mem_singleton] at hq
   subst hq
   rcases List.mem_append.1 hz with hz | hz
   ·exact (hw.2.2 z hz y (by simp)).trans hyx
   ·rw [List.mem_singleton] at hz; subst hz; exact hyx
  ·have hxy := (BS _).1 hb
   simp only [s1, AY g3, s2]
   have e4 : (P ++ u) ++ x :: (y :: R) = P ++ (u ++ (x :: (y :: R))) := by simp
   rw [e4]
   obtain ⟨w', f1, f2, f3⟩ := ih u (y :: R) x (j - 1) cnt (by omega) (by omega) (by omega) (by simp; omega) hw.1 (fun z hz => hax z (by simp [hz]))
   refine ⟨w' ++ [y], ?_, ?_, ?_⟩
   ·rw [f1]; simp
   ·refine (List.Perm.append_right [y] f2).trans ?_
    rw [List.append_assoc, List.append_assoc]
    exact List.Perm.append_left u (List.Perm.swap _ _ _)
   ·rw [List.pairwise_append]
    refine ⟨f3, by simp, fun z hz q hq => ?_⟩
    rw [List.mem_singleton] at hq
    subst hq
    rcases List.mem_append.1 (f2.mem_iff.1 hz) with hz | hz
    ·exact hw.2.2 z hz q (by simp)
    ·rw [List.mem_singleton] at hz; subst hz; exact hxy
theorem ATQ (P Q : List Tie) : ∀ (R w : List Tie) (i cnt : Nat) (b : Nat), P.length + w.length = i → b = i + R.length → R.length < cnt → P.length + w.length + R.length + Q.length < 268435456 → w.Pairwise bef → R.Pairwise ahead → (∀ y ∈ w, ∀ x ∈ R, ahead y x) →
  ∃ w', AU (DN zT Bq) cnt (P ++ (w ++ (R ++ Q)), (P.length : Int), (b : Int), (i : Int), ()) = some (.inl (P ++ (w' ++ Q), ())) ∧ w'.Perm (w ++ R) ∧ w'.Pairwise bef := by
 intro R
 induction R with
 | nil =>
  intro w i cnt b hi hb hc hs hw _ _
  obtain ⟨cnt, rfl⟩ : ∃ c, cnt = c + 1 := ⟨cnt - 1, by omega⟩
  refine ⟨w, ?_, by rw [List.append_nil], hw⟩
  simp only [List.length_nil, Nat.add_zero] at hb
  rw [AU, DN, AL, decide_eq_false (by omega)]
  rfl
 | cons x R ih =>
  intro w i cnt b hi hb hc hs hw hR hwR
  obtain ⟨cnt, rfl⟩ : ∃ c, cnt = c + 1 := ⟨cnt - 1, by omega⟩
  simp only [List.length_cons] at hb hc hs
  rw [List.pairwise_cons] at hR
  obtain ⟨w', f1, f2, f3⟩ := AV0 P Q (P.length : Int) (b : Int) (i : Int) rfl w.length w (R ++ Q) x i many rfl hi (by simp only [many]; omega) (by rw [List.length_append]; omega) hw (fun y hy => hwR y hy x (by simp))
  have f1' := (Ag (Ew zT Bq) many _).trans f1
  have e1 : P ++ (w ++ (x :: R ++ Q)) = P ++ (w ++ (x :: (R ++ Q))) := rfl
  rw [AU, DN, AL, decide_eq_true (by omega), e1]
  simp only [f1']
  rw [AM (by omega)]
  have hl := f2.length_eq
  rw [List.length_append, List.length_singleton] at hl
  obtain ⟨w2, g1, g2, g3⟩ := ih w' (i + 1) cnt b (by omega) (by omega) (by omega) (by omega) f3 hR.2 (fun y hy z hz => by
   rcases List.mem_append.1 (f2.mem_iff.1 hy) with hy | hy
   ·exact hwR y hy z (by simp [hz])
   ·rw [List.mem_singleton] at hy; subst hy; exact hR.1 z hz)
  refine ⟨w2, g1, ?_, g3⟩
  refine g2.trans ((List.Perm.append_right R f2).trans ?_)
  rw [List.append_assoc]
  exact List.Perm.refl _
theorem Wk (P u Q : List Tie) (hu : u.Pairwise ahead) (hs : P.length + u.length + Q.length < 268435456) :
  ∃ w, Yn (P ++ (u ++ Q), (P.length : Int), ((P.length + u.length : Nat) : Int), ()) = some (P ++ (w ++ Q), ()) ∧ w.Perm u ∧ w.Pairwise bef := by
 have hd : Yn (P ++ (u ++ Q), (P.length : Int), ((P.length + u.length : Nat) : Int), ()) = MP zT Bq (P ++ (u ++ Q), (P.length : Int), ((P.length + u.length : Nat) : Int), ()) := ANT _
 rw [hd, MP, AM (by omega)]
 cases u with
 | nil =>
  refine ⟨[], ?_, List.Perm.refl _, List.Pairwise.nil⟩
  obtain ⟨m, hm⟩ : ∃ m, many = m + 1 := ⟨many - 1, by simp only [many]⟩
  have e : AR (DN zT Bq) many (P ++ ([] ++ Q), (P.length : Int), ((P.length + ([] : List Tie).length : Nat) : Int), ((P.length + 1 : Nat) : Int), ()) = some (.inl (P ++ ([] ++ Q), ())) := by
   rw [Ag, hm, AU, DN, AL, decide_eq_false (by simp)]
  simp only [e]
 | cons x u =>
  rw [List.pairwise_cons] at hu
  simp only [List.length_cons] at hs
  obtain ⟨w', g1, g2, g3⟩ := ATQ P Q u [x] (P.length + 1) many (P.length + (u.length + 1)) (by simp) (by omega) (by simp only [many]; omega) (by simp; omega) (by simp) hu.2 (fun y hy z hz => by rw [List.mem_singleton] at hy; subst hy; exact hu.1 z hz)
  have g1' := (Ag (DN zT Bq) many _).trans g1
  have e1 : P ++ ([x] ++ (u ++ Q)) = P ++ (x :: u ++ Q) := rfl
  rw [e1] at g1'
  refine ⟨w', ?_, g2, g3⟩
  rw [List.length_cons]
  simp only [g1']
theorem AIs : ∀ k : Nat, AMJ (GD (k + 2)) (2 ^ (k + 1)) := by
 intro k
 induction k with
 | zero =>
  intro P u v Q h1 h2 hu hv ha hk hs
  have hl1 : u.length = 1 := by omega
  have hl2 : v.length = 1 := by omega
  obtain ⟨x, rfl⟩ : ∃ x, u = [x] := by
   cases u with
   | nil => simp at hl1
   | cons x u => exact ⟨x, by simp at hl1; rw [hl1]⟩
  have := ZG (GD 1) P Q v x hv (fun y hy => ha x (by simp) y hy) (by simp at hs; omega)
  obtain ⟨w, e, hw⟩ := this
  exact ⟨w, e, hw⟩
 | succ k ih =>
  intro P u v Q h1 h2 hu hv ha hk hs
  by_cases hl1 : u.length = 1
  ·obtain ⟨x, rfl⟩ : ∃ x, u = [x] := by
    cases u with
    | nil => simp at hl1
    | cons x u => exact ⟨x, by simp at hl1; rw [hl1]⟩
   obtain ⟨w, e, hw⟩ := ZG (GD (k + 2)) P Q v x hv (fun y hy => ha x (by simp) y hy) (by simp at hs; omega)
   exact ⟨w, e, hw⟩
  ·by_cases hl2 : v.length = 1
   ·obtain ⟨y, rfl⟩ : ∃ y, v = [y] := by
     cases v with
     | nil => simp at hl2
     | cons x u => exact ⟨x, by simp at hl2; rw [hl2]⟩
    obtain ⟨w, e, hw⟩ := AOU (GD (k + 2)) P Q u y hu (by omega) (fun x hx => ha x hx y (by simp)) (by simp at hs; omega)
    exact ⟨w, e, hw⟩
   ·have hp : 2 ^ (k + 1 + 1) = 2 * 2 ^ (k + 1) := by rw [Nat.pow_succ]; omega
    obtain ⟨w, e, hw⟩ := ARj ih P u v Q hu hv ha (by omega) (by omega) (by omega) hs
    exact ⟨w, e, hw⟩
theorem AI5 (ts : List Tie) (h : ts.length < 40) (hp : ts.Pairwise ahead) : ∃ w, To (ts, ()) = some (w, ()) ∧ w.Perm ts ∧ w.Pairwise bef := by
 obtain ⟨m, hm⟩ : ∃ m, many = m + 3 := ⟨many - 3, by simp only [many]⟩
 have w1 : IntKind.wrap .i64 ((20 : Int) + 20) = 40 := by rw [Ah (by omega)]; rfl
 have w2 : IntKind.wrap .i64 ((2 : Int) * 20) = 40 := by rw [Ah (by omega)]; rfl
 have w3 : IntKind.wrap .i64 ((0 : Int) + 20) = 20 := by rw [Ah (by omega)]; rfl
 have w4 : IntKind.wrap .i64 ((20 : Int) * 2) = 40 := by rw [Ah (by omega)]; rfl
 have e40 : ile (40 : Int) (ts.length : Int) = false := by rw [A2, decide_eq_false (by omega)]
 rw [ZL, NJ, AFK, Sc, AP]
 by_cases h20 : ts.length < 20
 ·have f0 : AR GG many (ts, (ts.length : Int), (20 : Int), (0 : Int), (20 : Int), ()) = some (.inl (ts, (ts.length : Int), (20 : Int), (0 : Int), ())) := by
   rw [Ag, hm, AU, GG, A2, decide_eq_false (by omega)]
  obtain ⟨w, i1, i2, i3⟩ := Wk [] ts [] hp (by simp; omega)
  simp only [List.nil_append, List.append_nil, List.length_nil, Nat.zero_add] at i1
  have f1 : ∀ l : List Tie, AR Dq many (l, (ts.length : Int), (20 : Int), ()) = some (.inl (l, ())) := by
   intro l
   rw [Ag, hm, AU, Dq, Aj, decide_eq_false (by omega)]
  have i1' : Yn (ts, (0 : Int), (ts.length : Int), ()) = _ := i1
  exact ⟨w, by simp only [f0, i1', f1], i2, i3⟩
 ·have hsp : ts.take 20 ++ ts.drop 20 = ts := List.take_append_drop _ _
  have l1 : (ts.take 20).length = 20 := by rw [List.length_take]; omega
  have l2 : (ts.drop 20).length = ts.length - 20 := List.length_drop
  have hp' := hp
  rw [← hsp, List.pairwise_append] at hp'
  obtain ⟨u, i1, i2, i3⟩ := Wk [] (ts.take 20) (ts.drop 20) hp'.1 (by rw [l1, l2]; simp; omega)
  simp only [List.nil_append, List.length_nil, Nat.zero_add, l1, hsp] at i1
  have i1' : Yn (ts, (0 : Int), (20 : Int), ()) = some (u ++ ts.drop 20, ()) := i1
  have lu : u.length = 20 := by rw [i2.length_eq, l1]
  obtain ⟨v, j1, j2, j3⟩ := Wk u (ts.drop 20) [] hp'.2.1 (by rw [lu, l2]; simp; omega)
  rw [lu, l2, List.append_nil, List.append_nil, show 20 + (ts.length - 20) = ts.length by omega] at j1
  have j1' : Yn (u ++ ts.drop 20, (20 : Int), (ts.length : Int), ()) = some (u ++ v, ()) := j1
  have lv : v.length = ts.length - 20 := by rw [j2.length_eq, l2]
  have f0 : AR GG many (ts, (ts.length : Int), (20 : Int), (0 : Int), (20 : Int), ()) = some (.inl (u ++ ts.drop 20, (ts.length : Int), (20 : Int), (20 : Int), ())) := by
   have c20 : ile (20 : Int) (ts.length : Int) = true := by rw [A2, decide_eq_true (by omega)]
   rw [Ag, hm]
   simp only [AU, GG, c20, i1', w1, e40]
  simp only [f0, j1']
  by_cases hl : ts.length = 20
  ·have f1 : AR Dq many (u ++ v, (ts.length : Int), (20 : Int), ()) = some (.inl (u ++ v, ())) := by
    rw [Ag, hm, AU, Dq, Aj, decide_eq_false (by omega)]
   have hv : v = [] := List.eq_nil_of_length_eq_zero (by omega)
   have hd : ts.drop 20 = [] := List.eq_nil_of_length_eq_zero (by omega)
   refine ⟨u ++ v, by simp only [f1], ?_, ?_⟩
   ·rw [hv, List.append_nil]
    refine i2.trans ?_
    conv => rhs; rw [← hsp, hd, List.append_nil]
   ·rw [hv, List.append_nil]; exact i3
  ·obtain ⟨w, k1, k2⟩ := AIs 98 [] u v [] (by omega) (by omega) i3 j3 (fun x hx y hy => hp'.2.2 x (i2.mem_iff.1 hx) y (j2.mem_iff.1 hy)) (by
     have : 2 ^ (98 + 1) = 633825300114114700748351602688 := by decide
     omega) (by simp; omega)
   simp only [List.nil_append, List.append_nil, List.length_nil, Nat.zero_add, lu, lv] at k1
   rw [show 20 + (ts.length - 20) = ts.length by omega] at k1
   have k1' : AIt (u ++ v, (0 : Int), (20 : Int), (ts.length : Int), ()) = some (w, ()) := by rw [AMl]; exact k1
   have c1 : ilt (20 : Int) (ts.length : Int) = true := by rw [Aj, decide_eq_true (by omega)]
   have c2 : ilt (40 : Int) (ts.length : Int) = false := by rw [Aj, decide_eq_false (by omega)]
   have f2 : AR JP many (u ++ v, (ts.length : Int), (20 : Int), (0 : Int), (40 : Int), ()) = some (.inl (u ++ v, (ts.length : Int), (20 : Int), (0 : Int), ())) := by
    rw [Ag, hm]
    simp only [AU, JP, e40]
   have f1 : AR Dq many (u ++ v, (ts.length : Int), (20 : Int), ()) = some (.inl (w, ())) := by
    rw [Ag, hm]
    simp only [AU, Dq, c1, c2, w2, f2, w3, w4, k1']
   refine ⟨w, by simp only [f1], ?_, k2.2⟩
   refine k2.1.trans ?_
   conv => rhs; rw [← hsp]
   exact i2.append j2
end Go.Pev.Pl
end
section
namespace Go.Pev.Pl
open Tok
set_option linter.unusedSimpArgs false
set_option maxRecDepth 100000
theorem AOu : ∀ (xs : List (Edge × Bool)) (a : List Edge), xs.foldl (fun a p => if p.2 = true then a ++ [p.1] else a) a = a ++ (xs.filter fun p => p.2).map fun p => p.1 := by
 intro xs
 induction xs with
 | nil => intro a; simp
 | cons x xs ih =>
  intro a
  rw [List.foldl_cons, ih, List.filter_cons]
  cases h : x.2 <;> simp
theorem AUk {l : List Edge} {bs : List Bool} {i : Nat} {x : Edge × Bool} (h : (l.zip bs)[i]? = some x) : l[i]? = some x.1 ∧ bs[i]? = some x.2 := by
 have := List.getElem?_zip_eq_some.1 h
 exact this
theorem AFM (l : List Edge) (bs : List Bool) (hs : l.length < 1073741824) (hb : bs.length = l.length) :
  AR Dd many (l, ([] : List Edge), bs, AQ bs, (0 : Int), ()) = some (.inl (sel l bs, ())) := by
 have hz : (l.zip bs).length = l.length := by rw [List.length_zip]; omega
 have e := CQ (step := Dd) (fun i (a : List Edge) => (l, a, bs, AQ bs, (i : Int), ())) (l.zip bs) (fun p a => .inl (if p.2 = true then a ++ [p.1] else a)) (fun a => .inl (a, ())) (fun i a => a.length ≤ i) (by omega)
  (fun i x a hi hx ha => by
   refine ⟨fun m' h' => ?_, fun r h' => (by cases h')⟩
   cases h'
   obtain ⟨g1, g2⟩ := AUk hx
   constructor
   ·rw [Dd, AP, AL, decide_eq_true (by omega)]
    simp only [AY g2, BD g2]
    rw [AM (by omega)]
    cases h : x.2
    ·simp
    ·simp only [AY g1, HZ, if_true]
     rw [B6 (by simp only [AP, List.length_cons, List.length_nil]; omega)]
   ·split
    ·rw [List.length_append, List.length_cons, List.length_nil]; omega
    ·omega)
  (fun a _ => by rw [Dd, AP, AL, decide_eq_false (by omega)]) [] (by simp)
 have e' : AR Dd many (l, ([] : List Edge), bs, AQ bs, (0 : Int), ()) = _ := e
 rw [e', BB (fun (p : Edge × Bool) (a : List Edge) => if p.2 = true then a ++ [p.1] else a), AOu, List.nil_append]
 rfl
theorem ATs : ∀ (xs b : List Edge), (gfl b xs).length = xs.length := by
 intro xs
 induction xs with
 | nil => intro b; rfl
 | cons x xs ih => intro b; rw [gfl, List.length_cons, List.length_cons, ih]
theorem AI3 {N : Nat} (h1 : 1 ≤ N) (hN : N ≤ 64) (l : List Edge) (hs : l.length < 1073741824) (ha : ∀ e ∈ l, In (N : Int) e.1 ∧ In (N : Int) e.2.1) :
  Th ((N : Int), l, ()) = some (B8 [] l, 0, ()) := by
 obtain ⟨s, e⟩ := ADm h1 hN l hs ha
 rw [ZK, NA]
 simp only [UT (N : Int) l ⟨by omega, by omega⟩ hs ha, Av, decide_true, Bool.not_true, VF N hN, PZ, Jc, e, AFM l (gfl [] l) hs (ATs l []), AMr]
theorem AFb (N : Int) (ts w : List Tie) (hs : w.length < 1073741824) :
  AR C3 many (N, ts, ([] : List Edge), w, AQ w, (0 : Int), ()) = some (.inl (N, ts, w.map ed, ())) := by
 have e := CQ (step := C3) (fun i (a : List Edge) => (N, ts, a, w, AQ w, (i : Int), ())) w (fun x a => .inl (a ++ [ed x])) (fun a => .inl (N, ts, a, ())) (fun i a => a.length ≤ i) (by omega)
  (fun i x a hi hx ha => by
   refine ⟨fun m' h' => ?_, fun r h' => (by cases h')⟩
   cases h'
   constructor
   ·rw [C3, AP, AL, decide_eq_true hi]
    simp only [AY hx, BD hx, HZ]
    rw [AM (by omega), B6 (by simp only [AP, List.length_cons, List.length_nil]; omega)]
    rfl
   ·rw [List.length_append, List.length_cons, List.length_nil]; omega)
  (fun a _ => by rw [C3, AP, AL, decide_eq_false (by omega)]) [] (by simp)
 have e' : AR C3 many (N, ts, ([] : List Edge), w, AQ w, (0 : Int), ()) = _ := e
 rw [e', BB (fun (x : Tie) (a : List Edge) => a ++ [ed x])]
 have : ∀ (xs : List Tie) (a : List Edge), xs.foldl (fun a x => a ++ [ed x]) a = a ++ xs.map ed := by
  intro xs
  induction xs with
  | nil => intro a; simp
  | cons x xs ih => intro a; rw [List.foldl_cons, ih]; simp
 rw [this, List.nil_append]
def lvl (ts : List Tie) (k : Int) : List Tie := ts.filter fun t => decide (t.2.2.1 = k)
def byl (ts : List Tie) : Nat → List Tie
 | 0 => []
 | k + 1 => lvl ts (k : Int) ++ byl ts k
theorem AVo (ts : List Tie) : ∀ (k : Nat) (t : Tie), t ∈ byl ts k → t ∈ ts ∧ t.2.2.1 < (k : Int) := by
 intro k
 induction k with
 | zero => intro t h; simp [byl] at h
 | succ k ih =>
  intro t h
  rw [byl, List.mem_append] at h
  rcases h with h | h
  ·rw [lvl, List.mem_filter, decide_eq_true_iff] at h
   exact ⟨h.1, by omega⟩
  ·have := ih t h
   exact ⟨this.1, by omega⟩
theorem AUU {ts : List Tie} (hp : ts.Pairwise ahead) : ∀ k : Nat, (byl ts k).Pairwise bef := by
 intro k
 induction k with
 | zero => simp [byl]
 | succ k ih =>
  rw [byl, List.pairwise_append]
  refine ⟨?_, ih, fun a ha b hb => ?_⟩
  ·have h1 : (lvl ts (k : Int)).Pairwise ahead := hp.sublist List.filter_sublist
   refine (List.pairwise_iff_forall_sublist.2 fun {a b} hab => ?_)
   have ha := hab.subset (show a ∈ [a, b] by simp)
   have hb := hab.subset (show b ∈ [a, b] by simp)
   rw [lvl, List.mem_filter, decide_eq_true_iff] at ha hb
   exact .inr ⟨by omega, List.pairwise_iff_forall_sublist.1 h1 hab⟩
  ·rw [lvl, List.mem_filter, decide_eq_true_iff] at ha
   have := AVo ts k b hb
   exact .inl (by omega)
theorem AUT (ts : List Tie) : ∀ k : Nat, (byl ts k).Perm (ts.filter fun t => decide (0 ≤ t.2.2.1 ∧ t.2.2.1 < (k : Int))) := by
 intro k
 induction k with
 | zero =>
  rw [byl, List.filter_eq_nil_iff.2]
  intro t _
  rw [decide_eq_true_iff]
  omega
 | succ k ih =>
  rw [byl, lvl]
  refine (List.Perm.append_left _ ih).trans ?_
  have h := List.filter_append_perm (fun t : Tie => decide (t.2.2.1 = (k : Int))) (ts.filter fun t => decide (0 ≤ t.2.2.1 ∧ t.2.2.1 < ((k + 1 : Nat) : Int)))
  refine List.Perm.trans ?_ h
  rw [List.filter_filter, List.filter_filter]
  refine List.Perm.of_eq ?_
  congr 1
  ·refine List.filter_congr fun t _ => ?_
   rw [Bool.eq_iff_iff, Bool.and_eq_true]
   simp only [decide_eq_true_iff]
   omega
  ·refine List.filter_congr fun t _ => ?_
   rw [Bool.eq_iff_iff, Bool.and_eq_true, Bool.not_eq_true']
   simp only [decide_eq_true_iff, decide_eq_false_iff_not]
   omega
theorem AMF {xs ys : List Tie} (h : xs.Perm ys) (hx : xs.Pairwise bef) (hy : ys.Pairwise bef) : xs = ys := by
 refine List.Perm.eq_of_pairwise (le := bef) ?_ hx hy h
 intro a b _ _ h1 h2
 exact absurd h2 h1.asymm
noncomputable def Ij (ts : List Tie) : List Tie := byl ts 65
theorem QJ {N : Nat} {ts : List Tie} (h : RG2 N ts) : (Ij ts).Perm ts := by
 refine (AUT ts 65).trans (List.Perm.of_eq (List.filter_eq_self.2 fun t ht => ?_))
 have h2 := (h.tie ht).2.2.2
 have h3 := M8 h.hN
 have h4 := IE h.hN
 rw [decide_eq_true_iff]
 omega
theorem AAH {N : Nat} {ts : List Tie} (h : RG2 N ts) : (Ij ts).Pairwise bef := AUU ((Kw N ts).1 h.oks).2 65
theorem AV9 {N : Nat} {ts : List Tie} (h : RG2 N ts) : ∀ e ∈ (Ij ts).map ed, In (N : Int) e.1 ∧ In (N : Int) e.2.1 := fun e he => h.inE e (((QJ h).map ed).mem_iff.1 he)
theorem AJI {N : Nat} {ts : List Tie} (h : RG2 N ts) (hl : ts.length < 40) : Lx (((N : Int), (ts, ())), ()) = some (B8 [] ((Ij ts).map ed), 0, ()) := by
 obtain ⟨w, e, hp, hw⟩ := AI5 ts hl ((Kw N ts).1 h.oks).2
 have hlw := hp.length_eq
 have : w = Ij ts := AMF (hp.trans (QJ h).symm) hw (AAH h)
 rw [ZT, NT]
 simp only [h.lr, Bool.not_true, AL3 (show ts.length ≤ 4294967296 by omega), e]
 rw [this] at hlw
 rw [this]
 have e2 : AR C3 many ((N : Int), ts, ([] : List (Int × Int × Unit)), Ij ts, AQ (Ij ts), (0 : Int), ()) = _ := AFb (N : Int) ts (Ij ts) (by omega)
 simp only [e2]
 rw [AI3 h.h1 h.hN ((Ij ts).map ed) (by rw [List.length_map]; omega) (AV9 h)]
end Go.Pev.Pl
end
section
namespace Go.Pev.Pl
open Tok
set_option linter.unusedSimpArgs false
set_option maxRecDepth 100000
section
variable (n : Int) (ts : List Tie)
end
end Go.Pev.Pl
end
section
namespace Go.Pev.Pl
open Tok
set_option linter.unusedSimpArgs false
set_option maxRecDepth 100000
theorem ALO : ∀ (xs b : List Edge) (x : Edge), B8 b (xs ++ [x]) = B8 b xs ++ if EB (b ++ xs) x.1 x.2.1 = true then [] else [x] := by
 intro xs
 induction xs with
 | nil => intro b x; simp [B8]
 | cons y xs ih =>
  intro b x
  rw [List.cons_append, B8, B8, ih, List.append_assoc, List.singleton_append]
  split <;> rfl
def re1 (a b x : Int) : Int := if x = a then b else x
def mid (f : Int → Int) (xs : List Int) (i : Nat) : List Int := (xs.take i).map f ++ xs.drop i
theorem Sm (f : Int → Int) (xs : List Int) {i : Nat} (h : i < xs.length) : mid f xs i = (xs.take i).map f ++ xs.getD i 0 :: xs.drop (i + 1) ∧ mid f xs (i + 1) = (xs.take i).map f ++ f (xs.getD i 0) :: xs.drop (i + 1) := by
 unfold mid
 have hg : xs.getD i 0 = xs[i] := by simp [h]
 constructor
 ·rw [hg, List.drop_eq_getElem_cons h]
 ·rw [hg, List.take_succ_eq_append_getElem h, List.map_append, List.append_assoc]
  rfl
theorem AVn (f : Int → Int) (xs : List Int) (i : Nat) : (mid f xs i).length = xs.length := by
 unfold mid
 rw [List.length_append, List.length_map, List.length_take, List.length_drop]
 omega
theorem AW8 (f : Int → Int) (xs : List Int) {i : Nat} (h : i < xs.length) : (mid f xs i).getD i 0 = xs.getD i 0 := by
 have : i - ((xs.take i).map f).length = 0 := by simp; omega
 rw [(Sm f xs h).1, List.getD_eq_getElem?_getD, List.getElem?_append_right (by simp; omega), this]
 rfl
theorem AVm (f : Int → Int) (xs : List Int) {i : Nat} (h : i < xs.length) : (mid f xs i).set i (f (xs.getD i 0)) = mid f xs (i + 1) := by
 rw [(Sm f xs h).1, (Sm f xs h).2, List.set_append_right _ _ (by simp; omega)]
 have : i - ((xs.take i).map f).length = 0 := by simp; omega
 rw [this]
 rfl
theorem AVu {N : Nat} (hN : N ≤ 64) (l : List Edge) (at0 : List Int) (hat : at0.length = N) (out : List Edge) (i a b : Int) :
  AR Bt many ((N : Int), l, at0, out, i, a, b, (0 : Int), ()) = some (.inl ((N : Int), l, at0.map (re1 a b), out, i, ())) := by
 have e := OG (step := Bt) (fun v => ((N : Int), l, mid (re1 a b) at0 v, out, i, a, b, (v : Int), ())) (List.range N) (fun _ => false) (fun _ => .inl ((N : Int), l, at0.map (re1 a b), out, i, ())) (.inl ((N : Int), l, at0.map (re1 a b), out, i, ())) (by simp; omega)
  (fun v x hi hx => by
   have := Cq hx
   subst this
   rw [List.length_range] at hi
   have hx : x < at0.length := by omega
   rw [Bt, AL, decide_eq_true hi]
   simp only [DH 0 (show x < (mid (re1 a b) at0 x).length by rw [AVn]; omega), HY, AW8 _ _ hx, Av, Is]
   rw [AM (by omega), ← AVm (re1 a b) at0 hx]
   have hself : (mid (re1 a b) at0 x).set x (at0.getD x 0) = mid (re1 a b) at0 x := by
    rw [(Sm _ _ hx).1, List.set_append_right _ _ (by simp; omega)]
    have : x - ((at0.take x).map (re1 a b)).length = 0 := by simp; omega
    rw [this]
    rfl
   unfold re1
   by_cases h : at0.getD x 0 = a
   ·rw [decide_eq_true h, if_pos h]
    rfl
   ·rw [decide_eq_false h, if_neg h]
    unfold re1 at hself
    rw [hself]
    rfl)
  (by
   rw [Bt, List.length_range, AL, decide_eq_false (by omega)]
   have : mid (re1 a b) at0 N = at0.map (re1 a b) := by
    unfold mid
    rw [← hat, List.take_length, List.drop_length, List.append_nil]
   rw [this])
 have h0 : mid (re1 a b) at0 0 = at0 := by simp [mid]
 have e' : AR Bt many ((N : Int), l, mid (re1 a b) at0 0, out, i, a, b, (0 : Int), ()) = _ := e
 rw [h0] at e'
 rw [e']
 simp
def lb (at0 : List Int) (v : Int) : Int := at0.getD v.toNat 0
theorem KP.re {N : Nat} {at0 : List Int} (hat : at0.length = N) {l : List Edge} {e : Edge} (h : KP N (lb at0) l) (h1 : In (N : Int) e.1) (h2 : In (N : Int) e.2.1) : KP N (lb (at0.map (re1 (lb at0 e.1) (lb at0 e.2.1)))) (l ++ [e]) := by
 intro a b ia ib
 have hm : ∀ v, In (N : Int) v → lb (at0.map (re1 (lb at0 e.1) (lb at0 e.2.1))) v = re1 (lb at0 e.1) (lb at0 e.2.1) (lb at0 v) := fun v iv => by
  obtain ⟨_, _, a1, a2⟩ := iv
  have hv : v.toNat < at0.length := by omega
  generalize re1 (lb at0 e.1) (lb at0 e.2.1) = f
  unfold lb
  simp [List.getD_eq_getElem?_getD, hv]
 rw [hm a ia, hm b ib, Con.snoc, ← h a b ia ib, ← h a _ ia h1, ← h _ b h2 ib, ← h a _ ia h2, ← h _ b h1 ib]
 unfold re1
 generalize lb at0 a = x
 generalize lb at0 b = y
 generalize lb at0 e.1 = u
 generalize lb at0 e.2.1 = v
 split <;> split <;> omega
theorem ATO {N : Nat} (hN : N ≤ 64) (l : List Edge) (hs : l.length < 1073741824) (ha : ∀ e ∈ l, In (N : Int) e.1 ∧ In (N : Int) e.2.1) :
  ∀ (m i n : Nat) (at0 : List Int), l.length - i = m → i ≤ l.length → m < n → at0.length = N → KP N (lb at0) (l.take i) →
   AU CJ n ((N : Int), l, at0, B8 [] (l.take i), (i : Int), ()) = some (.inl (B8 [] l, ())) := by
 intro m
 induction m with
 | zero =>
  intro i n at0 hm hi hn hat ht
  obtain ⟨n, rfl⟩ : ∃ k, n = k + 1 := ⟨n - 1, by omega⟩
  have e : i = l.length := by omega
  subst e
  rw [AU, CJ, AP, AL, decide_eq_false (by omega), List.take_length]
 | succ m ih =>
  intro i n at0 hm hi hn hat ht
  obtain ⟨n, rfl⟩ : ∃ k, n = k + 1 := ⟨n - 1, by omega⟩
  have hi' : i < l.length := by omega
  have hx : l[i]? = some l[i] := by simp [hi']
  obtain ⟨i1, i2⟩ := ha l[i] (List.getElem_mem hi')
  have htl := ht l[i].1 l[i].2.1 i1 i2
  have hsn := ht.re hat i1 i2
  have htk : l.take (i + 1) = l.take i ++ [l[i]] := List.take_succ_eq_append_getElem hi'
  have hgl : (B8 [] (l.take i)).length ≤ i := by
   have := (Wx (l.take i) []).length_le
   rw [List.length_take] at this
   omega
  have hgs : B8 [] (l.take (i + 1)) = B8 [] (l.take i) ++ if EB (l.take i) l[i].1 l[i].2.1 = true then [] else [l[i]] := by
   rw [htk, ALO, List.nil_append]
  have hnext := ih (i + 1) n
  rw [htk] at hnext
  generalize l[i] = x at *
  obtain ⟨x1, x2, ⟨⟩⟩ := x
  have i1 : In (N : Int) x1 := i1
  have i2 : In (N : Int) x2 := i2
  obtain ⟨_, _, a1, a2⟩ := i1
  obtain ⟨_, _, b1, b2⟩ := i2
  obtain ⟨u, rfl⟩ := Int.eq_ofNat_of_zero_le a1
  obtain ⟨v, rfl⟩ := Int.eq_ofNat_of_zero_le b1
  have hu : u < at0.length := by omega
  have hv : v < at0.length := by omega
  have lu : lb at0 (u : Int) = at0.getD u 0 := by unfold lb; rw [Int.toNat_natCast]
  have lv : lb at0 (v : Int) = at0.getD v 0 := by unfold lb; rw [Int.toNat_natCast]
  simp only [lu, lv] at htl hsn
  rw [AU, CJ, AP, AL, decide_eq_true hi']
  simp only [AY hx, DH 0 hu, DH 0 hv, HY, Av]
  by_cases h : at0.getD u 0 = at0.getD v 0
  ·have hc : EB (l.take i) (u : Int) (v : Int) = true := (BN _ _ _).2 (htl.1 h)
   rw [decide_eq_true h]
   simp only []
   rw [AM (by omega)]
   rw [← htk] at hnext
   rw [hc, if_pos rfl, List.append_nil] at hgs
   rw [← hgs]
   refine hnext at0 (by omega) (by omega) (by omega) hat ?_
   rw [htk]
   have hre : at0.map (re1 (at0.getD u 0) (at0.getD v 0)) = at0 := by
    rw [h]
    have : re1 (at0.getD v 0) (at0.getD v 0) = id := by
     funext y
     unfold re1
     split
     ·rename_i h'; rw [h']; rfl
     ·rfl
    rw [this, List.map_id]
   rw [hre] at hsn
   exact hsn
  ·have hc : EB (l.take i) (u : Int) (v : Int) = false := by
    rw [← Bool.not_eq_true, BN]
    exact fun c => h (htl.2 c)
   rw [decide_eq_false h]
   simp only [AVu hN l at0 hat (B8 [] (l.take i)) (i : Int) (at0.getD u 0) (at0.getD v 0), AY hx, HZ]
   rw [B6 (by simp only [AP, List.length_cons, List.length_nil]; omega), AM (by omega)]
   rw [← htk] at hnext
   rw [hc, if_neg (by simp)] at hgs
   rw [← hgs]
   refine hnext _ (by omega) (by omega) (by omega) (by rw [List.length_map]; exact hat) ?_
   rw [htk]
   exact hsn
theorem Yl {N : Nat} (hN : N ≤ 64) (l : List Edge) (hs : l.length < 1073741824) (ha : ∀ e ∈ l, In (N : Int) e.1 ∧ In (N : Int) e.2.1) : Hq ((N : Int), l, ()) = some (B8 [] l, ()) := by
 rw [N0, Gx]
 have f1 : Hv (N : Int) = true := (Hu _).2 (by omega)
 rw [f1, Cc, decide_eq_true (Nat.le_refl _)]
 simp only [Bool.and_self]
 have hz : KE (AG (N : Int)) (0 : Int) = List.replicate N 0 := by simp [KE, AG]
 rw [hz]
 have e := CQ (step := CK) (fun i (a : List Int) => ((N : Int), l, a, (i : Int), ())) (List.range N) (fun (k : Nat) a => .inl (a.set k (k : Int))) (fun a => .inl ((N : Int), l, a, ())) (fun i a => a.length = N) (by simp; omega)
  (fun i x a hi hx ha => by
   refine ⟨fun m' h' => ?_, fun r h' => by cases h'⟩
   cases h'
   have := Cq hx
   subst this
   rw [List.length_range] at hi
   rw [CK, AL, decide_eq_true hi]
   simp only [DH 0 (show x < a.length by omega), Is]
   rw [AM (by omega)]
   exact ⟨rfl, by rw [List.length_set]; exact ha⟩)
  (fun a _ => by rw [CK, List.length_range, AL, decide_eq_false (by omega)]) (List.replicate N 0) (by simp)
 have e' : AR CK many ((N : Int), l, List.replicate N 0, (0 : Int), ()) = _ := e
 have key : ∀ M, M ≤ N → (List.range M).foldl (fun (a : List Int) (k : Nat) => a.set k (k : Int)) (List.replicate N 0) = ((List.range M).map fun (k : Nat) => (k : Int)) ++ List.replicate (N - M) 0 := by
  intro M
  induction M with
  | zero => intro _; simp
  | succ M ih =>
   intro hM
   rw [List.range_succ, List.foldl_append, ih (by omega)]
   simp only [List.foldl_cons, List.foldl_nil, List.map_append, List.map_cons, List.map_nil]
   rw [List.set_append_right _ _ (by simp)]
   obtain ⟨d, hd⟩ : ∃ d, N - M = d + 1 := ⟨N - M - 1, by omega⟩
   rw [hd, show N - (M + 1) = d by omega]
   simp [List.replicate_succ]
 rw [BB, key N (Nat.le_refl _), Nat.sub_self, List.replicate_zero, List.append_nil] at e'
 simp only [e']
 have e2 := ATO hN l hs ha l.length 0 many ((List.range N).map fun (k : Nat) => (k : Int)) rfl (Nat.zero_le _) (by simp only [many]; omega) (by simp) (by
  intro a b ia ib
  have hg : ∀ v, In (N : Int) v → lb ((List.range N).map fun (k : Nat) => (k : Int)) v = v := fun v iv => by
   obtain ⟨_, _, a1, a2⟩ := iv
   have hv : v.toNat < N := by omega
   unfold lb
   simp [List.getD_eq_getElem?_getD, hv]
   omega
  rw [List.take_zero, hg a ia, hg b ib]
  exact ⟨fun h => by rw [h]; exact .refl _, fun h => h.nil⟩)
 have e3 : AR CJ many ((N : Int), l, (List.range N).map (fun (k : Nat) => (k : Int)), ([] : List Edge), (0 : Int), ()) = _ := (Ag _ _ _).trans e2
 rw [e3]
end Go.Pev.Pl
end
section
namespace Go.Pev.Pl
open Tok
set_option linter.unusedSimpArgs false
set_option maxRecDepth 100000
theorem APP {α β : Type} (f : α → β) {l l2 : List β} (h : l.Perm l2) : ∀ ts : List α, l2 = ts.map f → ∃ w : List α, w.Perm ts ∧ w.map f = l := by
 induction h with
 | nil =>
  intro ts e
  exact ⟨[], by rw [List.map_eq_nil_iff.1 e.symm], rfl⟩
 | cons x _ ih =>
  intro ts e
  obtain ⟨t, ts', rfl, rfl, e2⟩ := List.map_eq_cons_iff.1 e.symm
  obtain ⟨w, h1, h2⟩ := ih ts' e2.symm
  exact ⟨t :: w, h1.cons _, by rw [List.map_cons, h2]⟩
 | swap x y l =>
  intro ts e
  obtain ⟨t, ts', rfl, rfl, e2⟩ := List.map_eq_cons_iff.1 e.symm
  obtain ⟨t', ts'', rfl, rfl, rfl⟩ := List.map_eq_cons_iff.1 e2
  exact ⟨t' :: t :: ts'', List.Perm.swap _ _ _, rfl⟩
 | trans _ _ ih1 ih2 =>
  intro ts e
  obtain ⟨w, h1, h2⟩ := ih2 ts e
  obtain ⟨w', h3, h4⟩ := ih1 w h2.symm
  exact ⟨w', h3.trans h1, h4⟩
theorem AHU {N : Nat} {ts : List Tie} (h : RG2 N ts) {t : Tie} (hm : t ∈ ts) : ∃ k : Nat, Io (((N : Int), (ts, ())), t.1, t.2.1, ()) = some ((k : Int), ()) ∧ ts[k]? = some t := by
 obtain ⟨h1, k, h2, h3, h4⟩ := AT7 h.oks hm
 exact ⟨k, by rw [ALa h, h1, h2]; rfl, h4⟩
theorem Sn {X : List Tie} {i : Nat} {x : Tie} (h : X[i]? = some x) : (X.map ed)[i]? = some (ed x) := by
 rw [List.getElem?_map, h]
 rfl
theorem Z3 : ∀ (xs : List Tie) (a : Int), xs.foldl (fun a t => a + t.2.2.1) a = a + lvs xs := AQX
theorem AKg {N : Nat} {ts : List Tie} (h : RG2 N ts) (o : List Int) (X : List Tie) (hX : ∀ x ∈ X, x ∈ ts) (hl : X.length ≤ 400) :
  AR Bp many (o, (N : Int), ts, X.map ed, (0 : Int), (0 : Int), ()) = some (.inr (.inl (o, (N : Int), ts, X.map ed, lvs X, ()))) := by
 have e := CQ (step := Bp) (fun i (a : Int) => (o, (N : Int), ts, X.map ed, a, (i : Int), ())) X (fun t a => .inl (a + t.2.2.1)) (fun a => .inr (.inl (o, (N : Int), ts, X.map ed, a, ()))) (fun i a => 0 ≤ a ∧ a ≤ 64 * (i : Int)) (by omega)
  (fun i x a hi hx ha => by
   refine ⟨fun m' h' => ?_, fun r h' => (by cases h')⟩
   cases h'
   have hm := hX x (List.mem_of_getElem? hx)
   have h2 := (h.tie hm).2.2.2
   have h3 := M8 h.hN
   have h4 := IE h.hN
   obtain ⟨k, f1, f2⟩ := AHU h hm
   refine ⟨?_, by omega⟩
   have f1' : Io (((N : Int), (ts, ())), (ed x).1, (ed x).2.1, ()) = some ((k : Int), ()) := f1
   rw [Bp, AP, List.length_map, AL, decide_eq_true hi]
   simp only [AY (Sn hx), BD (Sn hx), f1', AY f2]
   rw [Aj, decide_eq_false (by omega)]
   simp only []
   rw [AM (by omega), Ah (by omega)])
  (fun a _ => by rw [Bp, AP, List.length_map, AL, decide_eq_false (by omega)]) 0 ⟨Int.le_refl _, by simp⟩
 have e' : AR Bp many (o, (N : Int), ts, X.map ed, (0 : Int), (0 : Int), ()) = _ := e
 rw [e', BB (fun (t : Tie) (a : Int) => a + t.2.2.1), Z3, Int.zero_add]
theorem AKe {N : Nat} {ts : List Tie} (h : RG2 N ts) (b : List Edge) (most : Int) (X : List Tie) (hX : ∀ x ∈ X, x ∈ ts) (hl : X.length ≤ 400) :
  AR Bo many ((N : Int), ts, b, most, (0 : Int), X.map ed, (0 : Int), ()) = some (.inl ((N : Int), ts, b, most, lvs X, X.map ed, ())) := by
 have e := CQ (step := Bo) (fun i (a : Int) => ((N : Int), ts, b, most, a, X.map ed, (i : Int), ())) X (fun t a => .inl (a + t.2.2.1)) (fun a => .inl ((N : Int), ts, b, most, a, X.map ed, ())) (fun i a => 0 ≤ a ∧ a ≤ 64 * (i : Int)) (by omega)
  (fun i x a hi hx ha => by
   refine ⟨fun m' h' => ?_, fun r h' => (by cases h')⟩
   cases h'
   have hm := hX x (List.mem_of_getElem? hx)
   have h2 := (h.tie hm).2.2.2
   have h3 := M8 h.hN
   have h4 := IE h.hN
   obtain ⟨k, f1, f2⟩ := AHU h hm
   refine ⟨?_, by omega⟩
   have f1' : Io (((N : Int), (ts, ())), (ed x).1, (ed x).2.1, ()) = some ((k : Int), ()) := f1
   rw [Bo, AP, List.length_map, AL, decide_eq_true hi]
   simp only [AY (Sn hx), BD (Sn hx), f1', AY f2]
   rw [AM (by omega), Ah (by omega)])
  (fun a _ => by rw [Bo, AP, List.length_map, AL, decide_eq_false (by omega)]) 0 ⟨Int.le_refl _, by simp⟩
 have e' : AR Bo many ((N : Int), ts, b, most, (0 : Int), X.map ed, (0 : Int), ()) = _ := e
 rw [e', BB (fun (t : Tie) (a : Int) => a + t.2.2.1), Z3, Int.zero_add]
theorem AKf (o : List Int) (ho : o.length ≤ 30) (hb : ∀ x ∈ o, 0 ≤ x ∧ x < 256) (N : Int) (ts : List Tie) (b : List Edge) (most : Int) (l0 : List Edge) (hl0 : l0.length ≤ 400) :
  ∀ (m i n : Nat) (l : List Edge), l.length - i = m → i ≤ l.length → m < n → l.Perm l0 → ∃ l', AU CB n (o, N, ts, b, most, l, (i : Int), ()) = some (.inl (N, ts, b, most, l', ())) ∧ l'.Perm l0 := by
 intro m
 induction m with
 | zero =>
  intro i n l hm hi hn hp
  obtain ⟨n, rfl⟩ : ∃ k, n = k + 1 := ⟨n - 1, by omega⟩
  exact ⟨l, by rw [AU, CB, AP, AL, decide_eq_false (by omega)], hp⟩
 | succ m ih =>
  intro i n l hm hi hn hp
  obtain ⟨n, rfl⟩ : ∃ k, n = k + 1 := ⟨n - 1, by omega⟩
  have hle := hp.length_eq
  rw [AU, CB, AP, AP, AL, decide_eq_true (by omega)]
  by_cases hz : o.length = 0
  ·refine ⟨l, ?_, hp⟩
   rw [Aj, decide_eq_false (by omega)]
  ·have hi' : i < l.length := by omega
   have h1 : i % o.length < o.length := Nat.mod_lt _ (by omega)
   have hx : o[i % o.length]? = some o[i % o.length] := by simp [h1]
   have hb' := hb _ (List.getElem_mem h1)
   generalize o[i % o.length] = x at *
   obtain ⟨x, rfl⟩ := Int.eq_ofNat_of_zero_le hb'.1
   have h2 : x % l.length < l.length := Nat.mod_lt _ (by omega)
   have e1 : rem? (i : Int) (o.length : Int) = some ((i % o.length : Nat) : Int) := AMz (by omega)
   have e2 : rem? (x : Int) (l.length : Int) = some ((x % l.length : Nat) : Int) := AMz (by omega)
   generalize x % l.length = k at *
   have hk : l[k]? = some l[k] := by simp [h2]
   have hki : l[i]? = some l[i] := by simp [hi']
   have hsw : ((l.set i l[k]).set k l[i]).Perm l0 := (List.set_set_perm hi' h2).trans hp
   have hse : (l.set i l[k])[k]? = some ((l.set i l[k])[k]'(by rw [List.length_set]; exact h2)) := by
    rw [List.getElem?_eq_getElem]
   have hun : ∀ y : Edge, (y.1, (y.2.1, ())) = y := fun y => rfl
   rw [Aj, decide_eq_true (by omega)]
   simp only [e1, AY hx, Ah (n := (x : Int)) (by omega), e2, AY hk, AY hki, BD hk, BD hki, Is, hun, AY hse]
   rw [AM (by omega)]
   exact ih (i + 1) n _ (by rw [List.length_set, List.length_set]; omega) (by rw [List.length_set, List.length_set]; omega) (by omega) hsw
theorem ADA {N : Nat} {ts : List Tie} (h : RG2 N ts) : ∀ x ∈ ts, InE N (ed x) := fun x hx => by
 obtain ⟨⟨_, _, a1, a2⟩, ⟨_, _, b1, b2⟩, _⟩ := h.tie hx
 exact ⟨⟨a1, a2⟩, b1, b2⟩
theorem Ti (g : Int × List Tie × Unit) (o : List Int) (h0 : wfD (.prod (.int .i64) (.prod (.slice (.prod (.int .i64) (.prod (.int .i64) (.prod (.int .i64) (.prod .bool .unit))))) .unit)) g) (h1 : wfD (.slice (.int .u8)) o) : Fm (g, o, ()) = some (true, ()) := by
 obtain ⟨n, ts, ⟨⟩⟩ := g
 have hb : ∀ x ∈ o, 0 ≤ x ∧ x < 256 := fun x hx => by
  have := h1.2 x hx
  have h2 : (0 : Int) ≤ x ∧ x ≤ 255 := this
  exact ⟨h2.1, by omega⟩
 rw [NI, Gq]
 simp only [AEF, Bool.not_true]
 rcases AHO n ts with g1 | ⟨g1, g2, g3⟩
 ·simp only [g1]
 simp only [g1]
 by_cases ho : (30 : Int) < o.length
 ·rw [AP, Aj, decide_eq_true ho]
 rw [AP, Aj, decide_eq_false ho]
 rcases APB n ts (by omega) with ⟨_, r⟩ | ⟨N, rfl, h⟩
 ·simp only [AJE n ts r, Bool.not_false]
 simp only [AJC h]
 by_cases hs : ¬ AIF ts
 ·have : Bk (AIF ts) = false := by rw [← Bool.not_eq_true, BS]; exact hs
  simp only [this, Bool.not_false]
 have hs := Classical.not_not.1 hs
 simp only [(BS _).2 hs, Bool.not_true, AFV h]
 by_cases hy : ¬ AQ3 ts
 ·have : Bk (AQ3 ts) = false := by rw [← Bool.not_eq_true, BS]; exact hy
  simp only [this, Bool.not_false]
 have hy := Classical.not_not.1 hy
 have hp := QJ h
 have hT := M8 h.hN
 have hTe := IE h.hN
 have hlv : ∀ t ∈ ts, 0 ≤ t.2.2.1 ∧ t.2.2.1 ≤ (AA5 N : Int) := fun t ht => by
  have := (h.tie ht).2.2.2
  omega
 have hd : (Ij ts).Pairwise fun x y => y.2.2.1 ≤ x.2.2.1 := (AAH h).imp fun {a b} hab => by
  unfold bef at hab
  omega
 have b1 := AUX hp (ADA h) hlv h.fo0 hy hd
 have bl := Ww hp (ADA h)
 have hsub : ∀ (w : List Tie), w.Perm ts → (∀ x ∈ gst [] w, x ∈ ts) ∧ (gst [] w).length ≤ 400 := fun w hw => by
  refine ⟨fun x hx => hw.mem_iff.1 ((Ik _ _).subset hx), ?_⟩
  have := (Ik w []).length_le
  have := hw.length_eq
  omega
 simp only [(BS _).2 hy, Bool.not_true, AJI h (by omega), Av, decide_true]
 rw [← OD]
 have l0 := AKg h o (gst [] (Ij ts)) (hsub _ hp).1 (hsub _ hp).2
 simp only [l0, AHf (N : Int) ts h.ht h.r21]
 obtain ⟨l', e1, hl'⟩ := AKf o (by omega) hb (N : Int) ts ((gst [] (Ij ts)).map ed) (lvs (gst [] (Ij ts))) (ts.map ed) (by rw [List.length_map]; omega) (ts.map ed).length 0 many (ts.map ed) rfl (Nat.zero_le _) (by rw [List.length_map]; simp only [many]; omega) (List.Perm.refl _)
 rw [← Ag] at e1
 have e1' : AR CB many (o, (N : Int), ts, (gst [] (Ij ts)).map ed, lvs (gst [] (Ij ts)), ts.map ed, (0 : Int), ()) = _ := e1
 simp only [e1']
 obtain ⟨w, hw, rfl⟩ := APP ed hl' ts rfl
 have hwl := hw.length_eq
 have e2 := Yl h.hN (w.map ed) (by rw [List.length_map]; omega) (fun e he => h.inE e ((hw.map ed).mem_iff.1 he))
 rw [← OD] at e2
 simp only [e2, AKe h ((gst [] (Ij ts)).map ed) (lvs (gst [] (Ij ts))) (gst [] w) (hsub _ hw).1 (hsub _ hw).2, ABb h]
 have b2 := APX hw (ADA h) hlv h.fo0 hy
 have wl := Ww hw (ADA h)
 have q1 : lvs (ts.filter fun t => t.2.2.2.1) = lvs (gst [] (Ij ts)) := b1.symm
 have q2 : lvs (gst [] w) ≤ lvs (gst [] (Ij ts)) := by rw [← q1]; exact b2
 rw [decide_eq_true q1, A2, decide_eq_true q2, AP, AP, List.length_map, List.length_map, decide_eq_true (by omega)]
end Go.Pev.Pl
end
section
namespace Go.Pev
open Go.Proofs
set_option maxRecDepth 100000
noncomputable section
abbrev ARF : Hints := {  }
theorem AIX : ∀ v, M4 v = AN Tryz.prog Env.none ARF Tryz.f159 TJ TH TG v := by
 rintro ⟨a0, ⟨⟩⟩
 kernel_rfl
theorem ARE : AD (AS Tryz.f159) 0 = [] := by kernel_rfl
theorem AEq : AO Tryz.prog 159 (AF 1 TJ TH TG JM) := AI Env.ANG Tryz.func159 (by kernel_rfl) (by kernel_rfl) rfl (fun v => (Y6 v).trans (AIX v)) (AA ARE trivial)
def Xk : Env := Env.none.ext 159 true true (AF 1 TJ TH TG JM)
theorem Re : AZ Tryz.prog Xk := Env.Ad Env.ANG AEq (fun _ => AJ rfl rfl) (fun _ => AH rfl rfl)
abbrev AXU : Hints := {  }
theorem AUx : ∀ v, AMZ v = AN Tryz.prog Xk AXU Tryz.f156 ARc ARb ARa v := by
 rintro ⟨a0, a1, ⟨⟩⟩
 kernel_rfl
theorem AXT : AD (AS Tryz.f156) 0 = [] := by kernel_rfl
theorem ARZ : AO Tryz.prog 156 (AF 2 ARc ARb ARa tin) := AI Re Tryz.func156 (by kernel_rfl) (by kernel_rfl) rfl (fun v => (ARd v).trans (AUx v)) (AA AXT trivial)
def AUi : Env := Xk.ext 156 true true (AF 2 ARc ARb ARa tin)
theorem AIM : AZ Tryz.prog AUi := Env.Ad Re ARZ (fun _ => AJ rfl rfl) (fun _ => AH rfl rfl)
abbrev AWr : Hints := {  }
theorem ARi : ∀ v, ABJ v = AN Tryz.prog AUi AWr Tryz.f187 AIj AIi AIh v := by
 rintro ⟨a0, a1, a2, ⟨⟩⟩
 kernel_rfl
theorem AWq : AD (AS Tryz.f187) 0 = [] := by kernel_rfl
theorem AOQ : AO Tryz.prog 187 (AF 3 AIj AIi AIh AOR) := AI AIM Tryz.func187 (by kernel_rfl) (by kernel_rfl) rfl (fun v => (AMa v).trans (ARi v)) (AA AWq trivial)
def AMO : Env := AUi.ext 187 true true (AF 3 AIj AIi AIh AOR)
theorem AAd : AZ Tryz.prog AMO := Env.Ad AIM AOQ (fun _ => AJ rfl rfl) (fun _ => AH rfl rfl)
abbrev ARD : Hints := { fp := fun n => match n with | 5 => [[], [], [], [], [], [], [], [], []] | _ => [] }
theorem AIW : ∀ v, M3 v = AN Tryz.prog AMO ARD Tryz.f197 TE TD TC v := by
 rintro ⟨a0, a1, ⟨⟩⟩
 kernel_rfl
theorem ARC : AD (AS Tryz.f197) 0 = [] := by kernel_rfl
theorem AEp : AO Tryz.prog 197 (AF 2 TE TD TC TF) := AI AAd Tryz.func197 (by kernel_rfl) (by kernel_rfl) rfl (fun v => (Y5 v).trans (AIW v)) (AA ARC trivial)
def On : Env := AMO.ext 197 true true (AF 2 TE TD TC TF)
theorem KS : AZ Tryz.prog On := Env.Ad AAd AEp (fun _ => AJ rfl rfl) (fun _ => AH rfl rfl)
abbrev ABF : Hints := { loop := fun n => match n with | 0 => Ab 0 25 AE2 AE1 GB | _ => fun _ _ _ => none }
theorem AE0 : ∀ v, GB v = roundOf Tryz.prog On ABF 1 0 25 (AB Tryz.f129 0) AE2 AE1 v := by
 rintro ⟨a0, a1, a2, a3, a4, ⟨⟩⟩
 kernel_rfl
theorem ARX : AD (AB Tryz.f129 0) 1 = [] := by kernel_rfl
theorem ARY : Aa Tryz.prog 0 (.loop (AB Tryz.f129 0)) (ABF.loop 0) := AX KS (AE0) (AA ARX trivial)
theorem AOO : ∀ v, SY v = AN Tryz.prog On ABF Tryz.f129 ABE ABD ABC v := by
 rintro ⟨a0, ⟨⟩⟩
 kernel_rfl
theorem AUu : AD (AS Tryz.f129) 0 = [(0, AB Tryz.f129 0)] := by kernel_rfl
theorem AIe : AO Tryz.prog 129 (AF 1 ABE ABD ABC AE4) := AI KS Tryz.func129 (by kernel_rfl) (by kernel_rfl) rfl (fun v => (AE3 v).trans (AOO v)) (AA AUu ⟨ARY, trivial⟩)
def S2 : Env := On.ext 129 true true (AF 1 ABE ABD ABC AE4)
theorem Mo : AZ Tryz.prog S2 := Env.Ad KS AIe (fun _ => AJ rfl rfl) (fun _ => AH rfl rfl)
abbrev Wq : Hints := { loop := fun n => match n with | 0 => Ab 0 19 AAE AAD EU | _ => fun _ _ _ => none }
theorem ADB : ∀ v, EU v = roundOf Tryz.prog S2 Wq 1 0 19 (AB Tryz.f146 0) AAE AAD v := by
 rintro ⟨a0, a1, a2, a3, ⟨⟩⟩
 kernel_rfl
theorem AP9 : AD (AB Tryz.f146 0) 1 = [] := by kernel_rfl
theorem AQA : Aa Tryz.prog 0 (.loop (AB Tryz.f146 0)) (Wq.loop 0) := AX Mo (ADB) (AA AP9 trivial)
theorem ALJ : ∀ v, N2 v = AN Tryz.prog S2 Wq Tryz.f146 Wp Wo Wn v := by
 rintro ⟨a0, a1, ⟨⟩⟩
 kernel_rfl
theorem ATY : AD (AS Tryz.f146) 0 = [(0, AB Tryz.f146 0)] := by kernel_rfl
theorem AG8 : AO Tryz.prog 146 (AF 2 Wp Wo Wn MR) := AI Mo Tryz.func146 (by kernel_rfl) (by kernel_rfl) rfl (fun v => (AAF v).trans (ALJ v)) (AA ATY ⟨AQA, trivial⟩)
def X4 : Env := S2.ext 146 true true (AF 2 Wp Wo Wn MR)
theorem Rs : AZ Tryz.prog X4 := Env.Ad Mo AG8 (fun _ => AJ rfl rfl) (fun _ => AH rfl rfl)
abbrev AHp : Hints := {  }
theorem Ys : ∀ v, G9 v = AN Tryz.prog X4 AHp Tryz.f113 KH KG KF v := by
 rintro ⟨a0, a1, ⟨⟩⟩
 kernel_rfl
theorem AHo : AD (AS Tryz.f113) 0 = [] := by kernel_rfl
theorem XM : AO Tryz.prog 113 (AF 2 KH KG KF Eh) := AI Rs Tryz.func113 (by kernel_rfl) (by kernel_rfl) rfl (fun v => (OQ v).trans (Ys v)) (AA AHo trivial)
def HH : Env := X4.ext 113 true true (AF 2 KH KG KF Eh)
theorem Gi : AZ Tryz.prog HH := Env.Ad Rs XM (fun _ => AJ rfl rfl) (fun _ => AH rfl rfl)
abbrev AKl : Hints := { loop := fun n => match n with | 0 => Ab 0 25 ANJ ANI Ie | _ => fun _ _ _ => none }
theorem AKh : ∀ v, Ie v = roundOf Tryz.prog HH AKl 1 0 25 (AB Tryz.f177 0) ANJ ANI v := by
 rintro ⟨a0, a1, a2, ⟨⟩⟩
 kernel_rfl
theorem AVk : AD (AB Tryz.f177 0) 1 = [] := by kernel_rfl
theorem AVl : Aa Tryz.prog 0 (.loop (AB Tryz.f177 0)) (AKl.loop 0) := AX Gi (AKh) (AA AVk trivial)
theorem ATE : ∀ v, ACo v = AN Tryz.prog HH AKl Tryz.f177 AKk AKj AKi v := by
 rintro ⟨a0, ⟨⟩⟩
 kernel_rfl
theorem AW7 : AD (AS Tryz.f177) 0 = [(0, AB Tryz.f177 0)] := by kernel_rfl
theorem APk : AO Tryz.prog 177 (AF 1 AKk AKj AKi APl) := AI Gi Tryz.func177 (by kernel_rfl) (by kernel_rfl) rfl (fun v => (ANK v).trans (ATE v)) (AA AW7 ⟨AVl, trivial⟩)
def AMT : Env := HH.ext 177 true true (AF 1 AKk AKj AKi APl)
theorem AAi : AZ Tryz.prog AMT := Env.Ad Gi APk (fun _ => AJ rfl rfl) (fun _ => AH rfl rfl)
abbrev AWE : Hints := {  }
theorem AQL : ∀ v, Ss v = AN Tryz.prog AMT AWE Tryz.f201 ADP ADO ADN v := by
 rintro ⟨a0, ⟨⟩⟩
 kernel_rfl
theorem AWD : AD (AS Tryz.f201) 0 = [] := by kernel_rfl
theorem ALP : AO Tryz.prog 201 (AF 2 ADP ADO ADN AHN) := AI AAi Tryz.func201 (by kernel_rfl) (by kernel_rfl) rfl (fun v => (AHM v).trans (AQL v)) (AA AWD trivial)
def O7 : Env := AMT.ext 201 false true (AF 2 ADP ADO ADN AHN)
theorem JA : AZ Tryz.prog O7 := Env.Ad AAi ALP ((by simp)) (fun _ => AH rfl rfl)
abbrev Hz : Hints := { loop := fun n => match n with | 0 => Ab 0 36 XT XR DX | 1 => Ab 0 36 XS XQ DW | _ => fun _ _ _ => none }
theorem Yu : ∀ v, DW v = roundOf Tryz.prog O7 Hz 2 0 36 (AB Tryz.f186 1) XS XQ v := by
 rintro ⟨a0, a1, a2, a3, ⟨⟩⟩
 kernel_rfl
theorem ALv : AD (AB Tryz.f186 1) 2 = [] := by kernel_rfl
theorem ALx : Aa Tryz.prog 0 (.loop (AB Tryz.f186 1)) (Hz.loop 1) := AX JA (Yu) (AA ALv trivial)
theorem Yv : ∀ v, DX v = roundOf Tryz.prog O7 Hz 1 0 36 (AB Tryz.f186 0) XT XR v := by
 rintro ⟨a0, a1, a2, a3, a4, ⟨⟩⟩
 kernel_rfl
theorem ALw : AD (AB Tryz.f186 0) 1 = [] := by kernel_rfl
theorem ALy : Aa Tryz.prog 0 (.loop (AB Tryz.f186 0)) (Hz.loop 0) := AX JA (Yv) (AA ALw trivial)
theorem AHs : ∀ v, K5 v = AN Tryz.prog O7 Hz Tryz.f186 QY QX QW v := by
 rintro ⟨a0, ⟨⟩⟩
 kernel_rfl
theorem AQj : AD (AS Tryz.f186) 0 = [(0, AB Tryz.f186 0), (1, AB Tryz.f186 1)] := by kernel_rfl
theorem ADp : AO Tryz.prog 186 (AF 1 QY QX QW It) := AI JA Tryz.func186 (by kernel_rfl) (by kernel_rfl) rfl (fun v => (XU v).trans (AHs v)) (AA AQj ⟨ALy, ALx, trivial⟩)
def Qu : Env := O7.ext 186 true true (AF 1 QY QX QW It)
theorem O9 : AZ Tryz.prog Qu := Env.Ad JA ADp (fun _ => AJ rfl rfl) (fun _ => AH rfl rfl)
theorem AO9 : Tryz.f195.body.isSome = true := by kernel_rfl
theorem AO8 : (Tryz.f195.name == "runtime.NumGoroutine") = false := by kernel_rfl
theorem AO7 : loops (AS Tryz.f195) = 0 := by kernel_rfl
def HF : Env := Qu.ext 195 false false (Ct Tryz.prog Qu {} Tryz.f195)
theorem Gg : AZ Tryz.prog HF := Env.Ad O9 (Cv O9 Tryz.func195 AO9 AO8 AO7) (by simp) (by simp)
abbrev GP : Hints := { loop := fun n => match n with | 0 => Ab 0 19 JE JD Bc | _ => fun _ _ _ => none }
theorem MV : ∀ v, Bc v = roundOf Tryz.prog HF GP 1 0 19 (AB Tryz.f174 0) JE JD v := by
 rintro ⟨a0, a1, a2, ⟨⟩⟩
 kernel_rfl
theorem SC : AD (AB Tryz.f174 0) 1 = [] := by kernel_rfl
theorem SD : Aa Tryz.prog 0 (.loop (AB Tryz.f174 0)) (GP.loop 0) := AX Gg (MV) (AA SC trivial)
theorem QI : ∀ v, D0 v = AN Tryz.prog HF GP Tryz.f174 GO GN GM v := by
 rintro ⟨a0, ⟨⟩⟩
 kernel_rfl
theorem Wv : AD (AS Tryz.f174) 0 = [(0, AB Tryz.f174 0)] := by kernel_rfl
theorem OA : AO Tryz.prog 174 (AF 2 GO GN GM Fb) := AI Gg Tryz.func174 (by kernel_rfl) (by kernel_rfl) rfl (fun v => (JF v).trans (QI v)) (AA Wv ⟨SD, trivial⟩)
def Gh : Env := HF.Cx 174 1 195 (AF 2 GO GN GM Fb)
theorem HG : AZ Tryz.prog Gh := Env.A7 Gg OA (AH rfl rfl)
end
end Go.Pev
end
section
namespace Go.Pev
open Go.Proofs
set_option maxRecDepth 100000
noncomputable section
abbrev SJ : Hints := {  }
theorem OU : ∀ v, DO v = AN Tryz.prog Gh SJ Tryz.f154 FO FN FM v := by
 rintro ⟨a0, ⟨⟩⟩
 kernel_rfl
theorem SH : AD (AS Tryz.f154) 0 = [] := by kernel_rfl
theorem Mf : AO Tryz.prog 154 (AF 2 FO FN FM DI) := AI HG Tryz.func154 (by kernel_rfl) (by kernel_rfl) rfl (fun v => (Hy v).trans (OU v)) (AA SH trivial)
def DP : Env := Gh.Cx 154 1 195 (AF 2 FO FN FM DI)
theorem Db : AZ Tryz.prog DP := Env.A7 HG Mf (AH rfl rfl)
abbrev AKW : Hints := { loop := fun n => match n with | 0 => Ab 0 23 ANB ANA IZ | _ => fun _ _ _ => none }
theorem AKS : ∀ v, IZ v = roundOf Tryz.prog DP AKW 1 0 23 (AB Tryz.f196 0) ANB ANA v := by
 rintro ⟨a0, a1, a2, a3, a4, ⟨⟩⟩
 kernel_rfl
theorem AVf : AD (AB Tryz.f196 0) 1 = [] := by kernel_rfl
theorem AVg : Aa Tryz.prog 0 (.loop (AB Tryz.f196 0)) (AKW.loop 0) := AX Db (AKS) (AA AVf trivial)
theorem AS9 : ∀ v, ACi v = AN Tryz.prog DP AKW Tryz.f196 AKV AKU AKT v := by
 rintro ⟨a0, ⟨⟩⟩
 kernel_rfl
theorem AW3 : AD (AS Tryz.f196) 0 = [(0, AB Tryz.f196 0)] := by kernel_rfl
theorem APc : AO Tryz.prog 196 (AF 1 AKV AKU AKT once) := AI Db Tryz.func196 (by kernel_rfl) (by kernel_rfl) rfl (fun v => (ANC v).trans (AS9 v)) (AA AW3 ⟨AVg, trivial⟩)
def AMR : Env := DP.ext 196 true true (AF 1 AKV AKU AKT once)
theorem AAg : AZ Tryz.prog AMR := Env.Ad Db APc (fun _ => AJ rfl rfl) (fun _ => AH rfl rfl)
abbrev ASR : Hints := {  }
theorem AJa : ∀ v, Nb v = AN Tryz.prog AMR ASR Tryz.f176 VN VM VL v := by
 rintro ⟨a0, ⟨⟩⟩
 kernel_rfl
theorem ASQ : AD (AS Tryz.f176) 0 = [] := by kernel_rfl
theorem AFz : AO Tryz.prog 176 (AF 1 VN VM VL L7) := AI AAg Tryz.func176 (by kernel_rfl) (by kernel_rfl) rfl (fun v => (Zm v).trans (AJa v)) (AA ASQ trivial)
def Xx : Env := AMR.ext 176 true true (AF 1 VN VM VL L7)
theorem Ro : AZ Tryz.prog Xx := Env.Ad AAg AFz (fun _ => AJ rfl rfl) (fun _ => AH rfl rfl)
abbrev ARB : Hints := { fp := fun n => match n with | 1 => [[], [], [], [], [], [], [], [0], []] | _ => [] }
theorem AIU : ∀ v, M1 v = AN Tryz.prog Xx ARB Tryz.f200 TB TA S9 v := by
 rintro ⟨a0, a1, ⟨⟩⟩
 kernel_rfl
theorem ARA : AD (AS Tryz.f200) 0 = [] := by kernel_rfl
theorem AEo : AO Tryz.prog 200 (AF 2 TB TA S9 PI) := AI Ro Tryz.func200 (by kernel_rfl) (by kernel_rfl) rfl (fun v => (Y4 v).trans (AIU v)) (AA ARA trivial)
def Om : Env := Xx.ext 200 true true (AF 2 TB TA S9 PI)
theorem KR : AZ Tryz.prog Om := Env.Ad Ro AEo (fun _ => AJ rfl rfl) (fun _ => AH rfl rfl)
abbrev Vk : Hints := { loop := fun n => match n with | 0 => Ab 0 29 Zu Zt Df | _ => fun _ _ _ => none }
theorem ACQ : ∀ v, Df v = roundOf Tryz.prog Om Vk 1 0 29 (AB Tryz.f199 0) Zu Zt v := by
 rintro ⟨a0, a1, a2, a3, a4, ⟨⟩⟩
 kernel_rfl
theorem APJ : AD (AB Tryz.f199 0) 1 = [] := by kernel_rfl
theorem APK : Aa Tryz.prog 0 (.loop (AB Tryz.f199 0)) (Vk.loop 0) := AX KR (ACQ) (AA APJ trivial)
theorem AJ5 : ∀ v, Ng v = AN Tryz.prog Om Vk Tryz.f199 Vj Vi Vh v := by
 rintro ⟨a0, a1, ⟨⟩⟩
 kernel_rfl
theorem ASf : AD (AS Tryz.f199) 0 = [(0, AB Tryz.f199 0)] := by kernel_rfl
theorem AF9 : AO Tryz.prog 199 (AF 2 Vj Vi Vh ACR) := AI KR Tryz.func199 (by kernel_rfl) (by kernel_rfl) rfl (fun v => (Zv v).trans (AJ5 v)) (AA ASf ⟨APK, trivial⟩)
def X0 : Env := Om.ext 199 true true (AF 2 Vj Vi Vh ACR)
theorem Rq : AZ Tryz.prog X0 := Env.Ad KR AF9 (fun _ => AJ rfl rfl) (fun _ => AH rfl rfl)
abbrev AVO : Hints := {  }
theorem APD : ∀ v, Sh v = AN Tryz.prog X0 AVO Tryz.f185 ACI ACH ACG v := by
 rintro ⟨a0, a1, ⟨⟩⟩
 kernel_rfl
theorem AVN : AD (AS Tryz.f185) 0 = [] := by kernel_rfl
theorem AJo : AO Tryz.prog 185 (AF 2 ACI ACH ACG Zo) := AI Rq Tryz.func185 (by kernel_rfl) (by kernel_rfl) rfl (fun v => (AF6 v).trans (APD v)) (AA AVN trivial)
def AEQ : Env := X0.ext 185 true true (AF 2 ACI ACH ACG Zo)
theorem Xz : AZ Tryz.prog AEQ := Env.Ad Rq AJo (fun _ => AJ rfl rfl) (fun _ => AH rfl rfl)
abbrev AST : Hints := {  }
theorem AJc : ∀ v, Nc v = AN Tryz.prog AEQ AST Tryz.f202 VQ VP VO v := by
 rintro ⟨a0, ⟨⟩⟩
 kernel_rfl
theorem ASS : AD (AS Tryz.f202) 0 = [] := by kernel_rfl
theorem AF0 : AO Tryz.prog 202 (AF 1 VQ VP VO VR) := AI Xz Tryz.func202 (by kernel_rfl) (by kernel_rfl) rfl (fun v => (Zn v).trans (AJc v)) (AA ASS trivial)
def Xy : Env := AEQ.ext 202 true true (AF 1 VQ VP VO VR)
theorem Rp : AZ Tryz.prog Xy := Env.Ad Xz AF0 (fun _ => AJ rfl rfl) (fun _ => AH rfl rfl)
theorem AOK : Tryz.f180.body.isSome = true := by kernel_rfl
theorem AOJ : (Tryz.f180.name == "runtime.NumGoroutine") = false := by kernel_rfl
theorem AOI : loops (AS Tryz.f180) = 0 := by kernel_rfl
def HE : Env := Xy.ext 180 false false (Ct Tryz.prog Xy {} Tryz.f180)
theorem Gf : AZ Tryz.prog HE := Env.Ad Rp (Cv Rp Tryz.func180 AOK AOJ AOI) (by simp) (by simp)
abbrev EY : Hints := { loop := fun n => match n with | 0 => Ab 1 19 G0 Gz BQ | _ => fun _ _ _ => none }
theorem J3 : ∀ v, BQ v = roundOf Tryz.prog HE EY 1 1 19 (AB Tryz.f179 0) G0 Gz v := by
 rintro ⟨a0, a1, a2, a3, ⟨⟩⟩
 kernel_rfl
theorem N6 : AD (AB Tryz.f179 0) 1 = [] := by kernel_rfl
theorem N7 : Aa Tryz.prog 1 (.loop (AB Tryz.f179 0)) (EY.loop 0) := AX Gf (J3) (AA N6 trivial)
theorem MT : ∀ v, C9 v = AN Tryz.prog HE EY Tryz.f179 EX EW EV v := by
 rintro ⟨a0, a1, ⟨⟩⟩
 kernel_rfl
theorem QG : AD (AS Tryz.f179) 0 = [(0, AB Tryz.f179 0)] := by kernel_rfl
theorem LK : AO Tryz.prog 179 (AF 2 EX EW EV Dy) := AI Gf Tryz.func179 (by kernel_rfl) (by kernel_rfl) rfl (fun v => (G1 v).trans (MT v)) (AA QG ⟨N7, trivial⟩)
def Ep : Env := HE.Cx 179 1 180 (AF 2 EX EW EV Dy)
theorem FW : AZ Tryz.prog Ep := Env.A7 Gf LK (AH rfl rfl)
abbrev ARN : Hints := {  }
theorem AIb : ∀ v, M7 v = AN Tryz.prog Ep ARN Tryz.f157 TT TS TR v := by
 rintro ⟨a0, a1, ⟨⟩⟩
 kernel_rfl
theorem ARM : AD (AS Tryz.f157) 0 = [] := by kernel_rfl
theorem AEv : AO Tryz.prog 157 (AF 2 TT TS TR Ln) := AI FW Tryz.func157 (by kernel_rfl) (by kernel_rfl) rfl (fun v => (ZE v).trans (AIb v)) (AA ARM trivial)
def Xm : Env := Ep.ext 157 true true (AF 2 TT TS TR Ln)
theorem Rg : AZ Tryz.prog Xm := Env.Ad FW AEv (fun _ => AJ rfl rfl) (fun _ => AH rfl rfl)
theorem AWc : Tryz.f198.body.isSome = true := by kernel_rfl
theorem AWb : (Tryz.f198.name == "runtime.NumGoroutine") = false := by kernel_rfl
theorem AWa : loops (AS Tryz.f198) = 0 := by kernel_rfl
def LI : Env := Xm.ext 198 false false (Ct Tryz.prog Xm {} Tryz.f198)
theorem JC : AZ Tryz.prog LI := Env.Ad Rg (Cv Rg Tryz.func198 AWc AWb AWa) (by simp) (by simp)
abbrev ALU : Hints := { loop := fun n => match n with | 0 => Ab 0 107 ANe ANd G5 | _ => fun _ _ _ => none, fp := fun n => match n with | 8 => [[], [], [], [], [], [], [], [], [1000003], [], [], [], [], [], [], [], [], [0], [0], [0], [], [0], [0], [0], [2, 26], [], [2, 26], [2, 26], [], [], [], [], []] | 13 => [[], [0], [0], [0], [2], [], [], [], [0], [0], [0], [6], [], [0], [0], [0], [4], [], [], []] | 3 => [[], [], [], [], [], [], [], [], [11], [], [], [], [8, 10, 12], []] | _ => [] }
theorem ALQ : ∀ v, G5 v = roundOf Tryz.prog LI ALU 1 0 107 (AB Tryz.f178 0) ANe ANd v := by
 rintro ⟨a0, a1, a2, a3, a4, a5, a6, ⟨⟩⟩
 kernel_rfl
theorem AWF : AD (AB Tryz.f178 0) 1 = [] := by kernel_rfl
theorem AWG : Aa Tryz.prog 0 (.loop (AB Tryz.f178 0)) (ALU.loop 0) := AX JC (ALQ) (AA AWF trivial)
theorem ATo : ∀ v, ADR v = AN Tryz.prog LI ALU Tryz.f178 ALT ALS ALR v := by
 rintro ⟨a0, a1, ⟨⟩⟩
 kernel_rfl
theorem AXF : AD (AS Tryz.f178) 0 = [(0, AB Tryz.f178 0)] := by kernel_rfl
theorem AQQ : AO Tryz.prog 178 (AF 2 ALT ALS ALR ATq) := AI JC Tryz.func178 (by kernel_rfl) (by kernel_rfl) rfl (fun v => (ANf v).trans (ATo v)) (AA AXF ⟨AWG, trivial⟩)
def Qs : Env := LI.ext 178 true true (AF 2 ALT ALS ALR ATq)
theorem H9 : AZ Tryz.prog Qs := Env.Ad JC AQQ (fun _ => AJ rfl rfl) (fun _ => AH rfl rfl)
end
end Go.Pev
end
section
namespace Go.Pev
open Go.Proofs
set_option maxRecDepth 100000
noncomputable section
abbrev F9 : Hints := { loop := fun n => match n with | 0 => Ab 0 87 ZC Y9 C2 | 1 => Ab 0 87 ZB Y8 C1 | 2 => Ab 0 87 ZA Y7 Dc | _ => fun _ _ _ => none, fp := fun n => match n with | 8 => [[], [], [], [], [], [], [], [], [], [], [], [], [], [], [], [], [], [], [], [], [], [], [], [], [0], [0], [], [], [], []] | _ => [] }
theorem AA0 : ∀ v, Dc v = roundOf Tryz.prog Qs F9 3 0 87 (AB Tryz.f153 2) ZA Y7 v := by
 rintro ⟨a0, a1, a2, ⟨⟩⟩
 kernel_rfl
theorem AOC : AD (AB Tryz.f153 2) 3 = [] := by kernel_rfl
theorem AOF : Aa Tryz.prog 0 (.loop (AB Tryz.f153 2)) (F9.loop 2) := AX H9 (AA0) (AA AOC trivial)
theorem AA1 : ∀ v, C1 v = roundOf Tryz.prog Qs F9 2 0 87 (AB Tryz.f153 1) ZB Y8 v := by
 rintro ⟨a0, a1, a2, a3, a4, a5, a6, a7, a8, a9, a10, a11, a12, a13, a14, a15, a16, a17, a18, a19, a20, a21, a22, a23, a24, a25, ⟨⟩⟩
 kernel_rfl
theorem AOD : AD (AB Tryz.f153 1) 2 = [] := by kernel_rfl
theorem AOG : Aa Tryz.prog 0 (.loop (AB Tryz.f153 1)) (F9.loop 1) := AX H9 (AA1) (AA AOD trivial)
theorem AA2 : ∀ v, C2 v = roundOf Tryz.prog Qs F9 1 0 87 (AB Tryz.f153 0) ZC Y9 v := by
 rintro ⟨a0, a1, a2, a3, a4, a5, a6, ⟨⟩⟩
 kernel_rfl
theorem AOE : AD (AB Tryz.f153 0) 1 = [(1, AB Tryz.f153 1)] := by kernel_rfl
theorem AOH : Aa Tryz.prog 0 (.loop (AB Tryz.f153 0)) (F9.loop 0) := AX H9 (AA2) (AA AOE ⟨AOG, trivial⟩)
theorem AIa : ∀ v, M6 v = AN Tryz.prog Qs F9 Tryz.f153 TP TO TN v := by
 rintro ⟨a0, ⟨⟩⟩
 kernel_rfl
theorem ARL : AD (AS Tryz.f153) 0 = [(0, AB Tryz.f153 0), (2, AB Tryz.f153 2)] := by kernel_rfl
theorem AEu : AO Tryz.prog 153 (AF 1 TP TO TN Ll) := AI H9 Tryz.func153 (by kernel_rfl) (by kernel_rfl) rfl (fun v => (ZD v).trans (AIa v)) (AA ARL ⟨AOH, AOF, trivial⟩)
def Xl : Env := Qs.ext 153 true true (AF 1 TP TO TN Ll)
theorem Rf : AZ Tryz.prog Xl := Env.Ad H9 AEu (fun _ => AJ rfl rfl) (fun _ => AH rfl rfl)
abbrev AWW : Hints := {  }
theorem AQz : ∀ v, S0 v = AN Tryz.prog Xl AWW Tryz.f184 AED AEC AEB v := by
 rintro ⟨a0, a1, a2, ⟨⟩⟩
 kernel_rfl
theorem AWV : AD (AS Tryz.f184) 0 = [] := by kernel_rfl
theorem AMG : AO Tryz.prog 184 (AF 3 AED AEC AEB asked) := AI Rf Tryz.func184 (by kernel_rfl) (by kernel_rfl) rfl (fun v => (AH8 v).trans (AQz v)) (AA AWV trivial)
def AEY : Env := Xl.ext 184 true true (AF 3 AED AEC AEB asked)
theorem YB : AZ Tryz.prog AEY := Env.Ad Rf AMG (fun _ => AJ rfl rfl) (fun _ => AH rfl rfl)
abbrev AW6 : Hints := {  }
theorem ATC : ∀ v, WL v = AN Tryz.prog AEY AW6 Tryz.f118 AKd AKc AKb v := by
 rintro ⟨a0, ⟨⟩⟩
 kernel_rfl
theorem AW5 : AD (AS Tryz.f118) 0 = [] := by kernel_rfl
theorem APh : AO Tryz.prog 118 (AF 1 AKd AKc AKb ATD) := AI YB Tryz.func118 (by kernel_rfl) (by kernel_rfl) rfl (fun v => (ACn v).trans (ATC v)) (AA AW5 trivial)
def AMS : Env := AEY.ext 118 true true (AF 1 AKd AKc AKb ATD)
theorem AAh : AZ Tryz.prog AMS := Env.Ad YB APh (fun _ => AJ rfl rfl) (fun _ => AH rfl rfl)
abbrev AL0 : Hints := {  }
theorem ADq : ∀ v, Ga v = AN Tryz.prog AMS AL0 Tryz.f74 Mi Mh Mg v := by
 rintro ⟨a0, a1, ⟨⟩⟩
 kernel_rfl
theorem ALz : AD (AS Tryz.f74) 0 = [] := by kernel_rfl
theorem Yw : AO Tryz.prog 74 (AF 2 Mi Mh Mg E9) := AI AAh Tryz.func74 (by kernel_rfl) (by kernel_rfl) rfl (fun v => (KJ v).trans (ADq v)) (AA ALz trivial)
def Mx : Env := AMS.ext 74 true true (AF 2 Mi Mh Mg E9)
theorem Lf : AZ Tryz.prog Mx := Env.Ad AAh Yw (fun _ => AJ rfl rfl) (fun _ => AH rfl rfl)
abbrev AUm : Hints := { fp := fun n => match n with | 1 => [[], [], [], [], [], [], [], []] | _ => [] }
theorem AN8 : ∀ v, SW v = AN Tryz.prog Mx AUm Tryz.f204 AAq AAp AAo v := by
 rintro ⟨a0, a1, ⟨⟩⟩
 kernel_rfl
theorem AUl : AD (AS Tryz.f204) 0 = [] := by kernel_rfl
theorem AIQ : AO Tryz.prog 204 (AF 2 AAq AAp AAo A4) := AI Lf Tryz.func204 (by kernel_rfl) (by kernel_rfl) rfl (fun v => (AEd v).trans (AN8 v)) (AA AUl trivial)
def AEM : Env := Mx.ext 204 true true (AF 2 AAq AAp AAo A4)
theorem Xi : AZ Tryz.prog AEM := Env.Ad Lf AIQ (fun _ => AJ rfl rfl) (fun _ => AH rfl rfl)
abbrev AVt : Hints := {  }
theorem AP3 : ∀ v, Sp v = AN Tryz.prog AEM AVt Tryz.f134 ACy ACx ACw v := by
 rintro ⟨a0, ⟨⟩⟩
 kernel_rfl
theorem AVs : AD (AS Tryz.f134) 0 = [] := by kernel_rfl
theorem AK1 : AO Tryz.prog 134 (AF 1 ACy ACx ACw AG5) := AI Xi Tryz.func134 (by kernel_rfl) (by kernel_rfl) rfl (fun v => (AG4 v).trans (AP3 v)) (AA AVs trivial)
def AES : Env := AEM.ext 134 true true (AF 1 ACy ACx ACw AG5)
theorem X3 : AZ Tryz.prog AES := Env.Ad Xi AK1 (fun _ => AJ rfl rfl) (fun _ => AH rfl rfl)
abbrev AQy : Hints := {  }
theorem AH7 : ∀ v, K7 v = AN Tryz.prog AES AQy Tryz.f100 Qd Qc Qb v := by
 rintro ⟨a0, ⟨⟩⟩
 kernel_rfl
theorem AQx : AD (AS Tryz.f100) 0 = [] := by kernel_rfl
theorem AEA : AO Tryz.prog 100 (AF 1 Qd Qc Qb bitsLen) := AI X3 Tryz.func100 (by kernel_rfl) (by kernel_rfl) rfl (fun v => (Xe v).trans (AH7 v)) (AA AQx trivial)
def Qv : Env := AES.ext 100 true true (AF 1 Qd Qc Qb bitsLen)
theorem PA : AZ Tryz.prog Qv := Env.Ad X3 AEA (fun _ => AJ rfl rfl) (fun _ => AH rfl rfl)
abbrev AN4 : Hints := { fp := fun n => match n with | 3 => [[], [0], [0], [], [0], [0], [], [], [0], [1]] | 2 => [[], [0], [0], [], [0], [0], [], [], [0], [1]] | 1 => [[], [0], [0], [], [0], [0], [], [], [0], [1]] | _ => [] }
theorem AEb : ∀ v, Kh v = AN Tryz.prog Qv AN4 Tryz.f191 PH PG PF v := by
 rintro ⟨a0, ⟨⟩⟩
 kernel_rfl
theorem AN3 : AD (AS Tryz.f191) 0 = [] := by kernel_rfl
theorem AAn : AO Tryz.prog 191 (AF 1 PH PG PF xorNext) := AI PA Tryz.func191 (by kernel_rfl) (by kernel_rfl) rfl (fun v => (S6 v).trans (AEb v)) (AA AN3 trivial)
def Qk : Env := Qv.ext 191 false true (AF 1 PH PG PF xorNext)
theorem Ol : AZ Tryz.prog Qk := Env.Ad PA AAn ((by simp)) (fun _ => AH rfl rfl)
abbrev APg : Hints := {  }
theorem AGu : ∀ v, Kx v = AN Tryz.prog Qk APg Tryz.f190 Pu Pt Ps v := by
 rintro ⟨a0, ⟨⟩⟩
 kernel_rfl
theorem APf : AD (AS Tryz.f190) 0 = [] := by kernel_rfl
theorem ACm : AO Tryz.prog 190 (AF 1 Pu Pt Ps Nq) := AI Ol Tryz.func190 (by kernel_rfl) (by kernel_rfl) rfl (fun v => (WK v).trans (AGu v)) (AA APf trivial)
def H7 : Env := Qk.ext 190 true true (AF 1 Pu Pt Ps Nq)
theorem Fl : AZ Tryz.prog H7 := Env.Ad Ol ACm (fun _ => AJ rfl rfl) (fun _ => AH rfl rfl)
abbrev Wm : Hints := { loop := fun n => match n with | 0 => Ab 1 53 ANZ ANX ANV | 1 => Ab 1 53 ANY ANW ANU | _ => fun _ _ _ => none, fp := fun n => match n with | 4 => [[], [], [], [], [], [], [], [0], [0], [], [], [], [0], [0], [], [], []] | 6 => [[], [], [], [], [], [], [], [], [0], [0], [], [], [0], [0], [0], [1], [0], [1]] | _ => [] }
theorem ALE : ∀ v, ANU v = roundOf Tryz.prog H7 Wm 2 1 53 (AB Tryz.f207 1) ANY ANW v := by
 rintro ⟨a0, a1, a2, a3, a4, ⟨⟩⟩
 kernel_rfl
theorem AV1 : AD (AB Tryz.f207 1) 2 = [] := by kernel_rfl
theorem AV3 : Aa Tryz.prog 1 (.loop (AB Tryz.f207 1)) (Wm.loop 1) := AX Fl (ALE) (AA AV1 trivial)
theorem ALF : ∀ v, ANV v = roundOf Tryz.prog H7 Wm 1 1 53 (AB Tryz.f207 0) ANZ ANX v := by
 rintro ⟨a0, a1, a2, a3, ⟨⟩⟩
 kernel_rfl
theorem AV2 : AD (AB Tryz.f207 0) 1 = [(1, AB Tryz.f207 1)] := by kernel_rfl
theorem AV4 : Aa Tryz.prog 1 (.loop (AB Tryz.f207 0)) (Wm.loop 0) := AX Fl (ALF) (AA AV2 ⟨AV3, trivial⟩)
theorem ATT : ∀ v, ATU v = AN Tryz.prog H7 Wm Tryz.f207 ALI ALH ALG v := by
 rintro ⟨a0, a1, a2, ⟨⟩⟩
 kernel_rfl
theorem AXD : AD (AS Tryz.f207) 0 = [(0, AB Tryz.f207 0)] := by kernel_rfl
theorem AP8 : AO Tryz.prog 207 (AF 4 ALI ALH ALG AXE) := AI Fl Tryz.func207 (by kernel_rfl) (by kernel_rfl) rfl (fun v => (AV5 v).trans (ATT v)) (AA AXD ⟨AV4, trivial⟩)
def AEU : Env := H7.Cx 207 3 204 (AF 4 ALI ALH ALG AXE)
theorem Qr : AZ Tryz.prog AEU := Env.A7 Fl AP8 (AH rfl rfl)
abbrev AB1 : Hints := { loop := fun n => match n with | 0 => Ab 1 82 AFk AFj AFi | _ => fun _ _ _ => none, fp := fun n => match n with | 6 => [[], [], [], [], [], [], [], [], [], [], [], [], [0], [0], [], [], [], [], [0], [0], [0], [1], [0], [1]] | 5 => [[], [], [], [], [], [0], [0], [], [], [], [], [0], [0], [], [], []] | 3 => [[], [], [], [], [], [], [], [], [], [], [0], [0], [], [], [], [], [], [0], [0], [], [], []] | _ => [] }
theorem AFh : ∀ v, AFi v = roundOf Tryz.prog AEU AB1 1 1 82 (AB Tryz.f215 0) AFk AFj v := by
 rintro ⟨a0, a1, a2, a3, ⟨⟩⟩
 kernel_rfl
theorem ASG : AD (AB Tryz.f215 0) 1 = [] := by kernel_rfl
theorem ASH : Aa Tryz.prog 1 (.loop (AB Tryz.f215 0)) (AB1.loop 0) := AX Qr (AFh) (AA ASG trivial)
theorem AOt : ∀ v, AMq v = AN Tryz.prog AEU AB1 Tryz.f215 AB0 ABz ABy v := by
 rintro ⟨a0, a1, a2, a3, ⟨⟩⟩
 kernel_rfl
theorem AVI : AD (AS Tryz.f215) 0 = [(0, AB Tryz.f215 0)] := by kernel_rfl
theorem AJO : AO Tryz.prog 215 (AF 5 AB0 ABz ABy ASJ) := AI Qr Tryz.func215 (by kernel_rfl) (by kernel_rfl) rfl (fun v => (ASI v).trans (AOt v)) (AA AVI ⟨ASH, trivial⟩)
def Ox : Env := AEU.Cx 215 4 204 (AF 5 AB0 ABz ABy ASJ)
theorem I6 : AZ Tryz.prog Ox := Env.A7 Qr AJO (AH rfl rfl)
abbrev OC : Hints := { loop := fun n => match n with | 0 => Ab 1 60 AHJ AHH AHF | 1 => Ab 1 60 AHI AHG AHD | _ => fun _ _ _ => none, fp := fun n => match n with | 10 => [[], [], [], [], [], [], [], [], [], [], [0], [0], [], [], [0], [0], [0], [1], [0], [1]] | _ => [] }
theorem AHC : ∀ v, AHD v = roundOf Tryz.prog Ox OC 2 1 60 (AB Tryz.f208 1) AHI AHG v := by
 rintro ⟨a0, a1, a2, a3, ⟨⟩⟩
 kernel_rfl
theorem ATe : AD (AB Tryz.f208 1) 2 = [] := by kernel_rfl
theorem ATg : Aa Tryz.prog 1 (.loop (AB Tryz.f208 1)) (OC.loop 1) := AX I6 (AHC) (AA ATe trivial)
theorem AHE : ∀ v, AHF v = roundOf Tryz.prog Ox OC 1 1 60 (AB Tryz.f208 0) AHJ AHH v := by
 rintro ⟨a0, a1, a2, a3, a4, ⟨⟩⟩
 kernel_rfl
theorem ATf : AD (AB Tryz.f208 0) 1 = [] := by kernel_rfl
theorem ATh : Aa Tryz.prog 1 (.loop (AB Tryz.f208 0)) (OC.loop 0) := AX I6 (AHE) (AA ATf trivial)
theorem AQE : ∀ v, ANa v = AN Tryz.prog Ox OC Tryz.f208 ADH ADG ADF v := by
 rintro ⟨a0, a1, a2, ⟨⟩⟩
 kernel_rfl
theorem AWA : AD (AS Tryz.f208) 0 = [(0, AB Tryz.f208 0), (1, AB Tryz.f208 1)] := by kernel_rfl
theorem ALL : AO Tryz.prog 208 (AF 4 ADH ADG ADF ATj) := AI I6 Tryz.func208 (by kernel_rfl) (by kernel_rfl) rfl (fun v => (ATi v).trans (AQE v)) (AA AWA ⟨ATh, ATg, trivial⟩)
def S5 : Env := Ox.Cx 208 3 204 (AF 4 ADH ADG ADF ATj)
theorem Mu : AZ Tryz.prog S5 := Env.A7 I6 ALL (AH rfl rfl)
end
end Go.Pev
end
section
namespace Go.Pev
open Go.Proofs
set_option maxRecDepth 100000
noncomputable section
abbrev Xc : Hints := { loop := fun n => match n with | 0 => Ab 1 67 AAW AAV AAU | _ => fun _ _ _ => none, fp := fun n => match n with | 10 => [[], [], [], [], [], [], [], [], [], [], [0], [0], [], [], [0], [0], [0], [1], [0], [1]] | _ => [] }
theorem AD8 : ∀ v, AAU v = roundOf Tryz.prog S5 Xc 1 1 67 (AB Tryz.f209 0) AAW AAV v := by
 rintro ⟨a0, a1, a2, a3, a4, a5, ⟨⟩⟩
 kernel_rfl
theorem AQt : AD (AB Tryz.f209 0) 1 = [] := by kernel_rfl
theorem AQu : Aa Tryz.prog 1 (.loop (AB Tryz.f209 0)) (Xc.loop 0) := AX Mu (AD8) (AA AQt trivial)
theorem AMB : ∀ v, AH5 v = AN Tryz.prog S5 Xc Tryz.f209 Xb Xa XZ v := by
 rintro ⟨a0, a1, a2, ⟨⟩⟩
 kernel_rfl
theorem AUV : AD (AS Tryz.f209) 0 = [(0, AB Tryz.f209 0)] := by kernel_rfl
theorem AH4 : AO Tryz.prog 209 (AF 4 Xb Xa XZ AMC) := AI Mu Tryz.func209 (by kernel_rfl) (by kernel_rfl) rfl (fun v => (AQv v).trans (AMB v)) (AA AUV ⟨AQu, trivial⟩)
def YA : Env := S5.Cx 209 3 204 (AF 4 Xb Xa XZ AMC)
theorem Rw : AZ Tryz.prog YA := Env.A7 Mu AH4 (AH rfl rfl)
abbrev APZ : Hints := { fp := fun n => match n with | 1 => [[], [], [], [0], [0], [], [], [0], [0], [], []] | _ => [] }
theorem AGq : ∀ v, Zz v = AN Tryz.prog YA APZ Tryz.f218 Pr Pq Pp v := by
 rintro ⟨a0, a1, a2, a3, ⟨⟩⟩
 kernel_rfl
theorem APY : AD (AS Tryz.f218) 0 = [] := by kernel_rfl
theorem ACg : AO Tryz.prog 218 (AF 5 Pr Pq Pp ACh) := AI Rw Tryz.func218 (by kernel_rfl) (by kernel_rfl) rfl (fun v => (AKQ v).trans (AGq v)) (AA APY trivial)
def Qn : Env := YA.Cx 218 4 204 (AF 5 Pr Pq Pp ACh)
theorem O1 : AZ Tryz.prog Qn := Env.A7 Rw ACg (AH rfl rfl)
abbrev APn : Hints := {  }
theorem AGx : ∀ v, Z1 v = AN Tryz.prog Qn APn Tryz.f217 Py Px Pw v := by
 rintro ⟨a0, a1, a2, a3, a4, ⟨⟩⟩
 kernel_rfl
theorem APm : AD (AS Tryz.f217) 0 = [] := by kernel_rfl
theorem ACp : AO Tryz.prog 217 (AF 6 Py Px Pw ACq) := AI O1 Tryz.func217 (by kernel_rfl) (by kernel_rfl) rfl (fun v => (AKn v).trans (AGx v)) (AA APm trivial)
def Qo : Env := Qn.Cx 217 5 204 (AF 6 Py Px Pw ACq)
theorem O2 : AZ Tryz.prog Qo := Env.A7 O1 ACp (AH rfl rfl)
abbrev APp : Hints := {  }
theorem AGy : ∀ v, Z2 v = AN Tryz.prog Qo APp Tryz.f216 P2 P1 Pz v := by
 rintro ⟨a0, a1, a2, ⟨⟩⟩
 kernel_rfl
theorem APo : AD (AS Tryz.f216) 0 = [] := by kernel_rfl
theorem ACr : AO Tryz.prog 216 (AF 4 P2 P1 Pz ACs) := AI O2 Tryz.func216 (by kernel_rfl) (by kernel_rfl) rfl (fun v => (AKp v).trans (AGy v)) (AA APo trivial)
def Qp : Env := Qo.Cx 216 3 204 (AF 4 P2 P1 Pz ACs)
theorem O3 : AZ Tryz.prog Qp := Env.A7 O2 ACr (AH rfl rfl)
abbrev ASh : Hints := {  }
theorem AJ8 : ∀ v, AGB v = AN Tryz.prog Qp ASh Tryz.f210 Vn Vm Vl v := by
 rintro ⟨a0, a1, a2, ⟨⟩⟩
 kernel_rfl
theorem ASg : AD (AS Tryz.f210) 0 = [] := by kernel_rfl
theorem AGA : AO Tryz.prog 210 (AF 4 Vn Vm Vl AJ9) := AI O3 Tryz.func210 (by kernel_rfl) (by kernel_rfl) rfl (fun v => (APL v).trans (AJ8 v)) (AA ASg trivial)
def O0 : Env := Qp.Cx 210 3 204 (AF 4 Vn Vm Vl AJ9)
theorem Kc : AZ Tryz.prog O0 := Env.A7 O3 AGA (AH rfl rfl)
abbrev AJt : Hints := { loop := fun n => match n with | 0 => Ab 1 34 AMy AMx AMw | _ => fun _ _ _ => none, fp := fun n => match n with | 3 => [[], [], [], [], [], [], [0], [0], [], [], [0], [0], [0], [1], [0], [1]] | _ => [] }
theorem AJp : ∀ v, AMw v = roundOf Tryz.prog O0 AJt 1 1 34 (AB Tryz.f211 0) AMy AMx v := by
 rintro ⟨a0, a1, a2, ⟨⟩⟩
 kernel_rfl
theorem AVP : AD (AB Tryz.f211 0) 1 = [] := by kernel_rfl
theorem AVQ : Aa Tryz.prog 1 (.loop (AB Tryz.f211 0)) (AJt.loop 0) := AX Kc (AJp) (AA AVP trivial)
theorem ASW : ∀ v, ASX v = AN Tryz.prog O0 AJt Tryz.f211 AJs AJr AJq v := by
 rintro ⟨a0, a1, a2, ⟨⟩⟩
 kernel_rfl
theorem AWw : AD (AS Tryz.f211) 0 = [(0, AB Tryz.f211 0)] := by kernel_rfl
theorem APE : AO Tryz.prog 211 (AF 4 AJs AJr AJq AWx) := AI Kc Tryz.func211 (by kernel_rfl) (by kernel_rfl) rfl (fun v => (AVR v).trans (ASW v)) (AA AWw ⟨AVQ, trivial⟩)
def Mt : Env := O0.Cx 211 3 204 (AF 4 AJs AJr AJq AWx)
theorem F4 : AZ Tryz.prog Mt := Env.A7 Kc APE (AH rfl rfl)
abbrev CG : Hints := { loop := fun n => match n with | 0 => Ab 1 141 RH RB Q7 | 1 => Ab 1 141 RE RA Q6 | 2 => Ab 1 141 RD Q9 Q5 | 3 => Ab 1 141 RC Q8 Q4 | _ => fun _ _ _ => none, fp := fun n => match n with | 11 => [[], [], [], [], [], [], [], [], [0], [0], [], [], [0], [0], [0], [1], [0], [1]] | 5 => [[], [], [], [], [], [], [], [0], [0], [], [], [], [0], [0], [], [], [], []] | 17 => [[], [], [], [], [], [], [], [], [0], [0], [], [], [0], [0], [0], [1], [0], [1]] | 16 => [[], [], [], [0], [0], [], [], [], [0], [0], [], [], []] | 23 => [[], [], [], [], [], [], [], [], [0], [0], [], [], [0], [0], [0], [1], [0], [1]] | 22 => [[], [], [], [0], [0], [], [], [], [0], [0], [], [], []] | _ => [] }
theorem Vs : ∀ v, Q4 v = roundOf Tryz.prog Mt CG 4 1 141 (AB Tryz.f212 3) RC Q8 v := by
 rintro ⟨a0, a1, a2, a3, a4, a5, ⟨⟩⟩
 kernel_rfl
theorem AGa : AD (AB Tryz.f212 3) 4 = [] := by kernel_rfl
theorem AGe : Aa Tryz.prog 1 (.loop (AB Tryz.f212 3)) (CG.loop 3) := AX F4 (Vs) (AA AGa trivial)
theorem Vt : ∀ v, Q5 v = roundOf Tryz.prog Mt CG 3 1 141 (AB Tryz.f212 2) RD Q9 v := by
 rintro ⟨a0, a1, a2, a3, a4, a5, ⟨⟩⟩
 kernel_rfl
theorem AGb : AD (AB Tryz.f212 2) 3 = [] := by kernel_rfl
theorem AGf : Aa Tryz.prog 1 (.loop (AB Tryz.f212 2)) (CG.loop 2) := AX F4 (Vt) (AA AGb trivial)
theorem Vu : ∀ v, Q6 v = roundOf Tryz.prog Mt CG 2 1 141 (AB Tryz.f212 1) RE RA v := by
 rintro ⟨a0, a1, a2, a3, a4, ⟨⟩⟩
 kernel_rfl
theorem AGc : AD (AB Tryz.f212 1) 2 = [] := by kernel_rfl
theorem AGg : Aa Tryz.prog 1 (.loop (AB Tryz.f212 1)) (CG.loop 1) := AX F4 (Vu) (AA AGc trivial)
theorem Vv : ∀ v, Q7 v = roundOf Tryz.prog Mt CG 1 1 141 (AB Tryz.f212 0) RH RB v := by
 rintro ⟨a0, a1, a2, a3, a4, ⟨⟩⟩
 kernel_rfl
theorem AGd : AD (AB Tryz.f212 0) 1 = [(1, AB Tryz.f212 1), (2, AB Tryz.f212 2), (3, AB Tryz.f212 3)] := by kernel_rfl
theorem AGh : Aa Tryz.prog 1 (.loop (AB Tryz.f212 0)) (CG.loop 0) := AX F4 (Vv) (AA AGd ⟨AGg, AGf, AGe, trivial⟩)
theorem ACb : ∀ v, Vw v = AN Tryz.prog Mt CG Tryz.f212 MC MB MA v := by
 rintro ⟨a0, a1, a2, ⟨⟩⟩
 kernel_rfl
theorem AKG : AD (AS Tryz.f212) 0 = [(0, AB Tryz.f212 0)] := by kernel_rfl
theorem YY : AO Tryz.prog 212 (AF 4 MC MB MA Vx) := AI F4 Tryz.func212 (by kernel_rfl) (by kernel_rfl) rfl (fun v => (AGi v).trans (ACb v)) (AA AKG ⟨AGh, trivial⟩)
def Eo : Env := Mt.Cx 212 3 204 (AF 4 MC MB MA Vx)
theorem DM : AZ Tryz.prog Eo := Env.A7 F4 YY (AH rfl rfl)
abbrev EO : Hints := { loop := fun n => match n with | 0 => Ab 1 90 WE WB V8 | 1 => Ab 1 90 WD WA Vz | 2 => Ab 1 90 WC V9 Vy | _ => fun _ _ _ => none, fp := fun n => match n with | 8 => [[], [], [], [], [], [], [0], [0], [], [], [0], [0], [0], [1], [0], [1]] | 3 => [[], [], [], [], [], [], [], [0], [0], [], [], [0], [0], [], [], [], []] | 5 => [[], [], [], [], [], [], [], [0], [0], [], [], [0], [0], [], [], []] | 1 => [[], [], [], [], [], [], [0], [0], [], [], [0], [0], [0], [1], [0], [1]] | _ => [] }
theorem Yc : ∀ v, Vy v = roundOf Tryz.prog Eo EO 3 1 90 (AB Tryz.f213 2) WC V9 v := by
 rintro ⟨a0, a1, a2, a3, ⟨⟩⟩
 kernel_rfl
theorem AKI : AD (AB Tryz.f213 2) 3 = [] := by kernel_rfl
theorem AKL : Aa Tryz.prog 1 (.loop (AB Tryz.f213 2)) (EO.loop 2) := AX DM (Yc) (AA AKI trivial)
theorem Yd : ∀ v, Vz v = roundOf Tryz.prog Eo EO 2 1 90 (AB Tryz.f213 1) WD WA v := by
 rintro ⟨a0, a1, a2, a3, ⟨⟩⟩
 kernel_rfl
theorem AKJ : AD (AB Tryz.f213 1) 2 = [] := by kernel_rfl
theorem AKM : Aa Tryz.prog 1 (.loop (AB Tryz.f213 1)) (EO.loop 1) := AX DM (Yd) (AA AKJ trivial)
theorem Ye : ∀ v, V8 v = roundOf Tryz.prog Eo EO 1 1 90 (AB Tryz.f213 0) WE WB v := by
 rintro ⟨a0, a1, a2, a3, ⟨⟩⟩
 kernel_rfl
theorem AKK : AD (AB Tryz.f213 0) 1 = [(1, AB Tryz.f213 1), (2, AB Tryz.f213 2)] := by kernel_rfl
theorem AKN : Aa Tryz.prog 1 (.loop (AB Tryz.f213 0)) (EO.loop 0) := AX DM (Ye) (AA AKK ⟨AKM, AKL, trivial⟩)
theorem AGo : ∀ v, Zx v = AN Tryz.prog Eo EO Tryz.f213 Po Pn Pm v := by
 rintro ⟨a0, a1, a2, a3, ⟨⟩⟩
 kernel_rfl
theorem APV : AD (AS Tryz.f213) 0 = [(0, AB Tryz.f213 0)] := by kernel_rfl
theorem ACd : AO Tryz.prog 213 (AF 5 Po Pn Pm ACe) := AI DM Tryz.func213 (by kernel_rfl) (by kernel_rfl) rfl (fun v => (AKO v).trans (AGo v)) (AA APV ⟨AKN, trivial⟩)
def Dj : Env := Eo.Cx 213 4 204 (AF 5 Po Pn Pm ACe)
theorem CP : AZ Tryz.prog Dj := Env.A7 DM ACd (AH rfl rfl)
abbrev Du : Hints := { loop := fun n => match n with | 0 => Ab 1 178 AGZ AGU AGP | 1 => Ab 1 178 AGY AGT AGN | 2 => Ab 1 178 AGX AGS AGL | 3 => Ab 1 178 AGW AGR AGJ | 4 => Ab 1 178 AGV AGQ AGH | _ => fun _ _ _ => none, fp := fun n => match n with | 3 => [[], [], [], [], [], [], [], [0], [0], [], [], [0], [0], [], [], []] | 5 => [[], [], [], [], [], [], [], [0], [0], [], [], [0], [0], [], [], [], []] | 18 => [[], [], [], [], [], [], [0], [0], [], [], [0], [0], [0], [1], [0], [1]] | 13 => [[], [], [], [], [], [], [], [0], [0], [], [], [0], [0], [], [], []] | 15 => [[], [], [], [], [], [], [], [0], [0], [], [], [0], [0], [], [], [], []] | 21 => [[], [], [], [], [], [], [0], [0], [], [], [0], [0], [0], [1], [0], [1]] | 10 => [[], [], [], [], [], [], [0], [0], [], [], [0], [0], [0], [1], [0], [1]] | 8 => [[], [], [], [], [], [], [0], [0], [], [], [0], [0], [0], [1], [0], [1]] | 1 => [[], [], [], [], [], [], [0], [0], [], [], [0], [0], [0], [1], [0], [1]] | _ => [] }
theorem AGG : ∀ v, AGH v = roundOf Tryz.prog Dj Du 5 1 178 (AB Tryz.f214 4) AGV AGQ v := by
 rintro ⟨a0, a1, a2, a3, ⟨⟩⟩
 kernel_rfl
theorem ASk : AD (AB Tryz.f214 4) 5 = [] := by kernel_rfl
theorem ASp : Aa Tryz.prog 1 (.loop (AB Tryz.f214 4)) (Du.loop 4) := AX CP (AGG) (AA ASk trivial)
theorem AGI : ∀ v, AGJ v = roundOf Tryz.prog Dj Du 4 1 178 (AB Tryz.f214 3) AGW AGR v := by
 rintro ⟨a0, a1, a2, a3, ⟨⟩⟩
 kernel_rfl
theorem ASl : AD (AB Tryz.f214 3) 4 = [] := by kernel_rfl
theorem ASq : Aa Tryz.prog 1 (.loop (AB Tryz.f214 3)) (Du.loop 3) := AX CP (AGI) (AA ASl trivial)
theorem AGK : ∀ v, AGL v = roundOf Tryz.prog Dj Du 3 1 178 (AB Tryz.f214 2) AGX AGS v := by
 rintro ⟨a0, a1, a2, a3, ⟨⟩⟩
 kernel_rfl
theorem ASm : AD (AB Tryz.f214 2) 3 = [(3, AB Tryz.f214 3), (4, AB Tryz.f214 4)] := by kernel_rfl
theorem ASr : Aa Tryz.prog 1 (.loop (AB Tryz.f214 2)) (Du.loop 2) := AX CP (AGK) (AA ASm ⟨ASq, ASp, trivial⟩)
theorem AGM : ∀ v, AGN v = roundOf Tryz.prog Dj Du 2 1 178 (AB Tryz.f214 1) AGY AGT v := by
 rintro ⟨a0, a1, a2, a3, ⟨⟩⟩
 kernel_rfl
theorem ASn : AD (AB Tryz.f214 1) 2 = [] := by kernel_rfl
theorem ASs : Aa Tryz.prog 1 (.loop (AB Tryz.f214 1)) (Du.loop 1) := AX CP (AGM) (AA ASn trivial)
theorem AGO : ∀ v, AGP v = roundOf Tryz.prog Dj Du 1 1 178 (AB Tryz.f214 0) AGZ AGU v := by
 rintro ⟨a0, a1, a2, a3, ⟨⟩⟩
 kernel_rfl
theorem ASo : AD (AB Tryz.f214 0) 1 = [] := by kernel_rfl
theorem ASt : Aa Tryz.prog 1 (.loop (AB Tryz.f214 0)) (Du.loop 0) := AX CP (AGO) (AA ASo trivial)
theorem APT : ∀ v, AM7 v = AN Tryz.prog Dj Du Tryz.f214 ACa ACZ ACY v := by
 rintro ⟨a0, a1, a2, a3, ⟨⟩⟩
 kernel_rfl
theorem AVb : AD (AS Tryz.f214) 0 = [(0, AB Tryz.f214 0), (1, AB Tryz.f214 1), (2, AB Tryz.f214 2)] := by kernel_rfl
theorem AKF : AO Tryz.prog 214 (AF 5 ACa ACZ ACY ASv) := AI CP Tryz.func214 (by kernel_rfl) (by kernel_rfl) rfl (fun v => (ASu v).trans (APT v)) (AA AVb ⟨ASt, ASs, ASr, trivial⟩)
def AER : Env := Dj.Cx 214 4 204 (AF 5 ACa ACZ ACY ASv)
theorem X1 : AZ Tryz.prog AER := Env.A7 CP AKF (AH rfl rfl)
abbrev AKD (self : (List (List Int) × Int × Int × Int × Unit) → Option ((List (List Int) × Unit))) : Hints := { loop := fun n => match n with | 0 => Ab 1 148 AM6 AM5 (AM4 self) | _ => fun _ _ _ => none, fp := fun n => match n with | 17 => [[], [], [], [], [], [], [], [0], [0], [], [], [0], [0], [], [], [], []] | _ => [] }
abbrev ACU (self : (List (List Int) × Int × Int × Int × Unit) → Option ((List (List Int) × Unit))) : Env := AER.ext 206 false true (AF 5 Vq Vp Vo self)
theorem AKC (self : (List (List Int) × Int × Int × Int × Unit) → Option ((List (List Int) × Unit))) : ∀ v, AM4 self v = roundOf Tryz.prog (ACU self) (AKD self) 1 1 148 (AB Tryz.f206 0) AM6 AM5 v := by
 rintro ⟨a0, a1, a2, a3, a4, a5, ⟨⟩⟩
 kernel_rfl
theorem AVV : AD (AB Tryz.f206 0) 1 = [] := by kernel_rfl
theorem AVW (self : (List (List Int) × Int × Int × Int × Unit) → Option ((List (List Int) × Unit))) (hE : AZ Tryz.prog (ACU self)) : Aa Tryz.prog 1 (.loop (AB Tryz.f206 0)) ((AKD self).loop 0) := AX hE (AKC self) (AA AVV trivial)
theorem ASj (self : (List (List Int) × Int × Int × Int × Unit) → Option ((List (List Int) × Unit))) : ∀ v, AW0 self v = AN Tryz.prog (ACU self) (AKD self) Tryz.f206 Vq Vp Vo v := by
 rintro ⟨a0, a1, a2, a3, ⟨⟩⟩
 kernel_rfl
theorem AWz : AD (AS Tryz.f206) 0 = [(0, AB Tryz.f206 0)] := by kernel_rfl
theorem AKE : ∀ n, AO Tryz.prog 206 (AF 5 Vq Vp Vo (Vr n)) := by
 intro n
 induction n with
 | zero => exact RJ fun _ => rfl
 | succ n ih =>
  have hE : AZ Tryz.prog (ACU (Vr n)) := Env.Ad X1 ih ((by simp)) (fun _ => AH rfl rfl)
  let self := Vr n
  exact AI hE Tryz.func206 (by kernel_rfl) (by kernel_rfl) rfl (ASj self) (AA AWz ⟨(AVW self hE), trivial⟩)
theorem APS : AO Tryz.prog 206 (AF 5 Vq Vp Vo AVY) := by
 have e : AVY = Vr 100 := funext AVX
 rw [e]
 exact AKE _
def AMQ : Env := AER.Cx 206 4 204 (AF 5 Vq Vp Vo AVY)
theorem AAf : AZ Tryz.prog AMQ := Env.A7 X1 APS (AH rfl rfl)
abbrev AVC : Hints := {  }
theorem AOb : ∀ v, AMp v = AN Tryz.prog AMQ AVC Tryz.f203 ABa ABZ ABY v := by
 rintro ⟨a0, ⟨⟩⟩
 kernel_rfl
theorem AVB : AD (AS Tryz.f203) 0 = [] := by kernel_rfl
theorem AI7 : AO Tryz.prog 203 (AF 2 ABa ABZ ABY AFQ) := AI AAf Tryz.func203 (by kernel_rfl) (by kernel_rfl) rfl (fun v => (ARz v).trans (AOb v)) (AA AVB trivial)
def Ot : Env := AMQ.Cx 203 1 204 (AF 2 ABa ABZ ABY AFQ)
theorem I1 : AZ Tryz.prog Ot := Env.A7 AAf AI7 (AH rfl rfl)
abbrev M0 : Hints := { loop := fun n => match n with | 0 => Ab 0 47 AEl AEj F8 | 1 => Ab 0 47 AEk AEi F7 | _ => fun _ _ _ => none }
theorem AEg : ∀ v, F7 v = roundOf Tryz.prog Ot M0 2 0 47 (AB Tryz.f188 1) AEk AEi v := by
 rintro ⟨a0, a1, a2, a3, a4, a5, a6, ⟨⟩⟩
 kernel_rfl
theorem AQ6 : AD (AB Tryz.f188 1) 2 = [] := by kernel_rfl
theorem AQ8 : Aa Tryz.prog 0 (.loop (AB Tryz.f188 1)) (M0.loop 1) := AX I1 (AEg) (AA AQ6 trivial)
theorem AEh : ∀ v, F8 v = roundOf Tryz.prog Ot M0 1 0 47 (AB Tryz.f188 0) AEl AEj v := by
 rintro ⟨a0, a1, a2, a3, a4, a5, a6, a7, a8, ⟨⟩⟩
 kernel_rfl
theorem AQ7 : AD (AB Tryz.f188 0) 1 = [] := by kernel_rfl
theorem AQ9 : Aa Tryz.prog 0 (.loop (AB Tryz.f188 0)) (M0.loop 0) := AX I1 (AEh) (AA AQ7 trivial)
theorem AOB : ∀ v, SX v = AN Tryz.prog Ot M0 Tryz.f188 AAv AAu AAt v := by
 rintro ⟨a0, a1, a2, ⟨⟩⟩
 kernel_rfl
theorem AUn : AD (AS Tryz.f188) 0 = [(0, AB Tryz.f188 0), (1, AB Tryz.f188 1)] := by kernel_rfl
theorem AIT : AO Tryz.prog 188 (AF 3 AAv AAu AAt AEn) := AI I1 Tryz.func188 (by kernel_rfl) (by kernel_rfl) rfl (fun v => (AEm v).trans (AOB v)) (AA AUn ⟨AQ9, AQ8, trivial⟩)
def AEN : Env := Ot.ext 188 true true (AF 3 AAv AAu AAt AEn)
theorem Xj : AZ Tryz.prog AEN := Env.Ad I1 AIT (fun _ => AJ rfl rfl) (fun _ => AH rfl rfl)
end
end Go.Pev
end
section
namespace Go.Pev
open Go.Proofs
set_option maxRecDepth 100000
noncomputable section
abbrev AUw : Hints := { fp := fun n => match n with | 9 => [[], [28], [0], [0], [], [], [], [], [], [0], [0], [], [], [], [], [], [28], [28, 52, 36, 62], [64], []] | 4 => [[0], [], [], [0], [], [], [], []] | _ => [] }
theorem AOP : ∀ v, M9 v = AN Tryz.prog AEN AUw Tryz.f161 ABI ABH ABG v := by
 rintro ⟨a0, a1, a2, ⟨⟩⟩
 kernel_rfl
theorem AUv : AD (AS Tryz.f161) 0 = [] := by kernel_rfl
theorem AIg : AO Tryz.prog 161 (AF 3 ABI ABH ABG TW) := AI Xj Tryz.func161 (by kernel_rfl) (by kernel_rfl) rfl (fun v => (TV v).trans (AOP v)) (AA AUv trivial)
def AEO : Env := AEN.ext 161 true true (AF 3 ABI ABH ABG TW)
theorem Xo : AZ Tryz.prog AEO := Env.Ad Xj AIg (fun _ => AJ rfl rfl) (fun _ => AH rfl rfl)
theorem ARg : Tryz.f155.body.isSome = true := by kernel_rfl
theorem ARf : (Tryz.f155.name == "runtime.NumGoroutine") = false := by kernel_rfl
theorem ARe : loops (AS Tryz.f155) = 0 := by kernel_rfl
def I0 : Env := AEO.ext 155 false false (Ct Tryz.prog AEO {} Tryz.f155)
theorem Hb : AZ Tryz.prog I0 := Env.Ad Xo (Cv Xo Tryz.func155 ARg ARf ARe) (by simp) (by simp)
abbrev Ec : Hints := { loop := fun n => match n with | 0 => Ab 1 19 G3 G2 BR | _ => fun _ _ _ => none }
theorem J4 : ∀ v, BR v = roundOf Tryz.prog I0 Ec 1 1 19 (AB Tryz.f174 0) G3 G2 v := by
 rintro ⟨a0, a1, a2, a3, a4, ⟨⟩⟩
 kernel_rfl
theorem N8 : AD (AB Tryz.f174 0) 1 = [] := by kernel_rfl
theorem N9 : Aa Tryz.prog 1 (.loop (AB Tryz.f174 0)) (Ec.loop 0) := AX Hb (J4) (AA N8 trivial)
theorem MU : ∀ v, DA v = AN Tryz.prog I0 Ec Tryz.f174 Eb Ea EZ v := by
 rintro ⟨a0, a1, a2, ⟨⟩⟩
 kernel_rfl
theorem QH : AD (AS Tryz.f174) 0 = [(0, AB Tryz.f174 0)] := by kernel_rfl
theorem LL : AO Tryz.prog 174 (AF 2 Eb Ea EZ Dz) := AI Hb Tryz.func174 (by kernel_rfl) (by kernel_rfl) rfl (fun v => (G4 v).trans (MU v)) (AA QH ⟨N9, trivial⟩)
def Er : Env := I0.Cx 174 1 155 (AF 2 Eb Ea EZ Dz)
theorem FX : AZ Tryz.prog Er := Env.A7 Hb LL (AH rfl rfl)
abbrev OT : Hints := {  }
theorem LM : ∀ v, Cd v = AN Tryz.prog Er OT Tryz.f154 D5 D4 D3 v := by
 rintro ⟨a0, a1, a2, ⟨⟩⟩
 kernel_rfl
theorem OS : AD (AS Tryz.f154) 0 = [] := by kernel_rfl
theorem KI : AO Tryz.prog 154 (AF 2 D5 D4 D3 CS) := AI FX Tryz.func154 (by kernel_rfl) (by kernel_rfl) rfl (fun v => (GY v).trans (LM v)) (AA OS trivial)
def EA : Env := Er.Cx 154 1 155 (AF 2 D5 D4 D3 CS)
theorem FD : AZ Tryz.prog EA := Env.A7 FX KI (AH rfl rfl)
abbrev ATu : Hints := {  }
theorem ALV : ∀ v, OE v = AN Tryz.prog EA ATu Tryz.f125 W3 W2 W1 v := by
 rintro ⟨a0, a1, ⟨⟩⟩
 kernel_rfl
theorem ATt : AD (AS Tryz.f125) 0 = [] := by kernel_rfl
theorem AHR : AO Tryz.prog 125 (AF 2 W3 W2 W1 Il) := AI FD Tryz.func125 (by kernel_rfl) (by kernel_rfl) rfl (fun v => (AAK v).trans (ALV v)) (AA ATt trivial)
def O8 : Env := EA.ext 125 true true (AF 2 W3 W2 W1 Il)
theorem Kg : AZ Tryz.prog O8 := Env.Ad FD AHR (fun _ => AJ rfl rfl) (fun _ => AH rfl rfl)
abbrev ALh : Hints := { loop := fun n => match n with | 0 => Ab 0 21 ANo ANn Ip | _ => fun _ _ _ => none }
theorem ALd : ∀ v, Ip v = roundOf Tryz.prog O8 ALh 1 0 21 (AB Tryz.f183 0) ANo ANn v := by
 rintro ⟨a0, a1, a2, a3, ⟨⟩⟩
 kernel_rfl
theorem AWO : AD (AB Tryz.f183 0) 1 = [] := by kernel_rfl
theorem AWP : Aa Tryz.prog 0 (.loop (AB Tryz.f183 0)) (ALh.loop 0) := AX Kg (ALd) (AA AWO trivial)
theorem AUA : ∀ v, ADh v = AN Tryz.prog O8 ALh Tryz.f183 ALg ALf ALe v := by
 rintro ⟨a0, ⟨⟩⟩
 kernel_rfl
theorem AXH : AD (AS Tryz.f183) 0 = [(0, AB Tryz.f183 0)] := by kernel_rfl
theorem AQf : AO Tryz.prog 183 (AF 1 ALg ALf ALe ends) := AI Kg Tryz.func183 (by kernel_rfl) (by kernel_rfl) rfl (fun v => (ANp v).trans (AUA v)) (AA AXH ⟨AWP, trivial⟩)
def AEX : Env := O8.ext 183 true true (AF 1 ALg ALf ALe ends)
theorem Qt : AZ Tryz.prog AEX := Env.Ad Kg AQf (fun _ => AJ rfl rfl) (fun _ => AH rfl rfl)
abbrev Ma : Hints := { loop := fun n => match n with | 0 => Ab 0 48 RU RT Cy | _ => fun _ _ _ => none, fp := fun n => match n with | 1 => [[0], [], [], [4], []] | _ => [] }
theorem XF : ∀ v, Cy v = roundOf Tryz.prog AEX Ma 1 0 48 (AB Tryz.f160 0) RU RT v := by
 rintro ⟨a0, a1, a2, a3, a4, a5, a6, ⟨⟩⟩
 kernel_rfl
theorem AHh : AD (AB Tryz.f160 0) 1 = [] := by kernel_rfl
theorem AHi : Aa Tryz.prog 0 (.loop (AB Tryz.f160 0)) (Ma.loop 0) := AX Qt (XF) (AA AHh trivial)
theorem ADj : ∀ v, Ir v = AN Tryz.prog AEX Ma Tryz.f160 MZ MY MX v := by
 rintro ⟨a0, a1, ⟨⟩⟩
 kernel_rfl
theorem ALk : AD (AS Tryz.f160) 0 = [(0, AB Tryz.f160 0)] := by kernel_rfl
theorem Yq : AO Tryz.prog 160 (AF 3 MZ MY MX OO) := AI Qt Tryz.func160 (by kernel_rfl) (by kernel_rfl) rfl (fun v => (RV v).trans (ADj v)) (AA ALk ⟨AHi, trivial⟩)
def Mv : Env := AEX.Cx 160 2 161 (AF 3 MZ MY MX OO)
theorem Ld : AZ Tryz.prog Mv := Env.A7 Qt Yq (AH rfl rfl)
abbrev AT4 : Hints := {  }
theorem ALY : ∀ v, OF v = AN Tryz.prog Mv AT4 Tryz.f130 W6 W5 W4 v := by
 rintro ⟨a0, a1, ⟨⟩⟩
 kernel_rfl
theorem AT3 : AD (AS Tryz.f130) 0 = [] := by kernel_rfl
theorem AHS : AO Tryz.prog 130 (AF 2 W6 W5 W4 ADX) := AI Ld Tryz.func130 (by kernel_rfl) (by kernel_rfl) rfl (fun v => (AAM v).trans (ALY v)) (AA AT3 trivial)
def X7 : Env := Mv.ext 130 true true (AF 2 W6 W5 W4 ADX)
theorem Ru : AZ Tryz.prog X7 := Env.Ad Ld AHS (fun _ => AJ rfl rfl) (fun _ => AH rfl rfl)
abbrev AXc : Hints := {  }
theorem AWK : ∀ v, ANl v = AN Tryz.prog X7 AXc Tryz.f92 AT1 AT0 ATz v := by
 rintro ⟨a0, a1, ⟨⟩⟩
 kernel_rfl
theorem AXb : AD (AS Tryz.f92) 0 = [] := by kernel_rfl
theorem ATy : AO Tryz.prog 92 (AF 2 AT1 AT0 ATz fof) := AI Ru Tryz.func92 (by kernel_rfl) (by kernel_rfl) rfl (fun v => (AT2 v).trans (AWK v)) (AA AXb trivial)
def AN1 : Env := X7.ext 92 true true (AF 2 AT1 AT0 ATz fof)
theorem X6 : AZ Tryz.prog AN1 := Env.Ad Ru ATy (fun _ => AJ rfl rfl) (fun _ => AH rfl rfl)
abbrev AS6 : Hints := { loop := fun n => match n with | 0 => Ab 0 18 AS4 AS2 MD | _ => fun _ _ _ => none }
theorem APa : ∀ v, MD v = roundOf Tryz.prog AN1 AS6 1 0 18 (AB Tryz.f114 0) AS4 AS2 v := by
 rintro ⟨a0, a1, a2, a3, ⟨⟩⟩
 kernel_rfl
theorem AW1 : AD (AB Tryz.f114 0) 1 = [] := by kernel_rfl
theorem AW2 : Aa Tryz.prog 0 (.loop (AB Tryz.f114 0)) (AS6.loop 0) := AX X6 (APa) (AA AW1 trivial)
theorem AVe : ∀ v, AM8 v = AN Tryz.prog AN1 AS6 Tryz.f114 AS5 AS3 AS1 v := by
 rintro ⟨a0, ⟨⟩⟩
 kernel_rfl
theorem AXZ : AD (AS Tryz.f114) 0 = [(0, AB Tryz.f114 0)] := by kernel_rfl
theorem AS0 : AO Tryz.prog 114 (AF 1 AS5 AS3 AS1 orI) := AI X6 Tryz.func114 (by kernel_rfl) (by kernel_rfl) rfl (fun v => (AS7 v).trans (AVe v)) (AA AXZ ⟨AW2, trivial⟩)
def AUj : Env := AN1.ext 114 true true (AF 1 AS5 AS3 AS1 orI)
theorem AIN : AZ Tryz.prog AUj := Env.Ad X6 AS0 (fun _ => AJ rfl rfl) (fun _ => AH rfl rfl)
abbrev ATJ : Hints := {  }
theorem AKx : ∀ v, Ju v = AN Tryz.prog AUj ATJ Tryz.f97 WT WS WR v := by
 rintro ⟨a0, ⟨⟩⟩
 kernel_rfl
theorem ATI : AD (AS Tryz.f97) 0 = [] := by kernel_rfl
theorem AG0 : AO Tryz.prog 97 (AF 1 WT WS WR P7) := AI AIN Tryz.func97 (by kernel_rfl) (by kernel_rfl) rfl (fun v => (P6 v).trans (AKx v)) (AA ATI trivial)
def X2 : Env := AUj.ext 97 true true (AF 1 WT WS WR P7)
theorem Rr : AZ Tryz.prog X2 := Env.Ad AIN AG0 (fun _ => AJ rfl rfl) (fun _ => AH rfl rfl)
abbrev AXA : Hints := {  }
theorem ATH : ∀ v, AKw v = AN Tryz.prog X2 AXA Tryz.f53 AKv AKu AKt v := by
 rintro ⟨a0, ⟨⟩⟩
 kernel_rfl
theorem AW9 : AD (AS Tryz.f53) 0 = [] := by kernel_rfl
theorem APt : AO Tryz.prog 53 (AF 1 AKv AKu AKt Yi) := AI Rr Tryz.func53 (by kernel_rfl) (by kernel_rfl) rfl (fun v => (AVp v).trans (ATH v)) (AA AW9 trivial)
def AMU : Env := X2.ext 53 true true (AF 1 AKv AKu AKt Yi)
theorem AAj : AZ Tryz.prog AMU := Env.Ad Rr APt (fun _ => AJ rfl rfl) (fun _ => AH rfl rfl)
end
end Go.Pev
end
section
namespace Go.Pev
open Go.Proofs
set_option maxRecDepth 100000
noncomputable section
abbrev AK5 : Hints := { fp := fun n => match n with | 1 => [[0], [0], [2], [2], [], [0], [0], [2], [2], [], [], [20], []] | _ => [] }
theorem AC1 : ∀ v, Ii v = AN Tryz.prog AMU AK5 Tryz.f98 ML MK MJ v := by
 rintro ⟨a0, a1, ⟨⟩⟩
 kernel_rfl
theorem AK4 : AD (AS Tryz.f98) 0 = [] := by kernel_rfl
theorem Yk : AO Tryz.prog 98 (AF 2 ML MK MJ Hp) := AI AAj Tryz.func98 (by kernel_rfl) (by kernel_rfl) rfl (fun v => (RL v).trans (AC1 v)) (AA AK4 trivial)
def I9 : Env := AMU.ext 98 true true (AF 2 ML MK MJ Hp)
theorem Hf : AZ Tryz.prog I9 := Env.Ad AAj Yk (fun _ => AJ rfl rfl) (fun _ => AH rfl rfl)
abbrev WQ : Hints := { loop := fun n => match n with | 0 => Ab 0 33 Z5 Z4 B2 | _ => fun _ _ _ => none }
theorem ACt : ∀ v, B2 v = roundOf Tryz.prog I9 WQ 1 0 33 (AB Tryz.f93 0) Z5 Z4 v := by
 rintro ⟨a0, a1, a2, a3, a4, ⟨⟩⟩
 kernel_rfl
theorem APr : AD (AB Tryz.f93 0) 1 = [] := by kernel_rfl
theorem APs : Aa Tryz.prog 0 (.loop (AB Tryz.f93 0)) (WQ.loop 0) := AX Hf (ACt) (AA APr trivial)
theorem AKs : ∀ v, Js v = AN Tryz.prog I9 WQ Tryz.f93 WO WN WM v := by
 rintro ⟨a0, a1, ⟨⟩⟩
 kernel_rfl
theorem ATF : AD (AS Tryz.f93) 0 = [(0, AB Tryz.f93 0)] := by kernel_rfl
theorem AGz : AO Tryz.prog 93 (AF 2 WO WN WM MG) := AI Hf Tryz.func93 (by kernel_rfl) (by kernel_rfl) rfl (fun v => (P5 v).trans (AKs v)) (AA ATF ⟨APs, trivial⟩)
def O4 : Env := I9.ext 93 true true (AF 2 WO WN WM MG)
theorem Kd : AZ Tryz.prog O4 := Env.Ad Hf AGz (fun _ => AJ rfl rfl) (fun _ => AH rfl rfl)
abbrev WX : Hints := { loop := fun n => match n with | 0 => Ab 0 96 Z7 Z6 C7 | _ => fun _ _ _ => none, fp := fun n => match n with | 7 => [[2], [2], [], [], [2], [2], [2], [2], [], [], [], [2], [2], [0], [0], [], [], [], [2], [2], [], [], [], [2], [2], [], [], [], [], [], [], [], [0], [0], [], [], [], [], [2], [], [], [], []] | _ => [] }
theorem ACu : ∀ v, C7 v = roundOf Tryz.prog O4 WX 1 0 96 (AB Tryz.f49 0) Z7 Z6 v := by
 rintro ⟨a0, a1, a2, a3, a4, a5, ⟨⟩⟩
 kernel_rfl
theorem APu : AD (AB Tryz.f49 0) 1 = [] := by kernel_rfl
theorem APv : Aa Tryz.prog 0 (.loop (AB Tryz.f49 0)) (WX.loop 0) := AX Kd (ACu) (AA APu trivial)
theorem AKy : ∀ v, GL v = AN Tryz.prog O4 WX Tryz.f49 WW WV WU v := by
 rintro ⟨a0, ⟨⟩⟩
 kernel_rfl
theorem ATK : AD (AS Tryz.f49) 0 = [(0, AB Tryz.f49 0)] := by kernel_rfl
theorem AG1 : AO Tryz.prog 49 (AF 1 WW WV WU ER) := AI Kd Tryz.func49 (by kernel_rfl) (by kernel_rfl) rfl (fun v => (Hn v).trans (AKy v)) (AA ATK ⟨APv, trivial⟩)
def O5 : Env := O4.ext 49 true true (AF 1 WW WV WU ER)
theorem Ke : AZ Tryz.prog O5 := Env.Ad Kd AG1 (fun _ => AJ rfl rfl) (fun _ => AH rfl rfl)
abbrev Wd : Hints := { loop := fun n => match n with | 0 => Ab 0 26 Z9 Z8 ES | _ => fun _ _ _ => none }
theorem ACz : ∀ v, ES v = roundOf Tryz.prog O5 Wd 1 0 26 (AB Tryz.f52 0) Z9 Z8 v := by
 rintro ⟨a0, a1, a2, a3, ⟨⟩⟩
 kernel_rfl
theorem AP4 : AD (AB Tryz.f52 0) 1 = [] := by kernel_rfl
theorem AP5 : Aa Tryz.prog 0 (.loop (AB Tryz.f52 0)) (Wd.loop 0) := AX Ke (ACz) (AA AP4 trivial)
theorem AK3 : ∀ v, Nt v = AN Tryz.prog O5 Wd Tryz.f52 Wc Wb Wa v := by
 rintro ⟨a0, ⟨⟩⟩
 kernel_rfl
theorem ATN : AD (AS Tryz.f52) 0 = [(0, AB Tryz.f52 0)] := by kernel_rfl
theorem AG6 : AO Tryz.prog 52 (AF 1 Wc Wb Wa We) := AI Ke Tryz.func52 (by kernel_rfl) (by kernel_rfl) rfl (fun v => (AAA v).trans (AK3 v)) (AA ATN ⟨AP5, trivial⟩)
def O6 : Env := O5.ext 52 true true (AF 1 Wc Wb Wa We)
theorem Kf : AZ Tryz.prog O6 := Env.Ad Ke AG6 (fun _ => AJ rfl rfl) (fun _ => AH rfl rfl)
abbrev UY : Hints := { loop := fun n => match n with | 0 => Ab 0 35 Zf Ze EH | _ => fun _ _ _ => none }
theorem ACA : ∀ v, EH v = roundOf Tryz.prog O6 UY 1 0 35 (AB Tryz.f119 0) Zf Ze v := by
 rintro ⟨a0, a1, a2, a3, ⟨⟩⟩
 kernel_rfl
theorem AOy : AD (AB Tryz.f119 0) 1 = [] := by kernel_rfl
theorem AOz : Aa Tryz.prog 0 (.loop (AB Tryz.f119 0)) (UY.loop 0) := AX Kf (ACA) (AA AOy trivial)
theorem AJV : ∀ v, NZ v = AN Tryz.prog O6 UY Tryz.f119 UX UW UU v := by
 rintro ⟨a0, a1, ⟨⟩⟩
 kernel_rfl
theorem ASM : AD (AS Tryz.f119) 0 = [(0, AB Tryz.f119 0)] := by kernel_rfl
theorem AFt : AO Tryz.prog 119 (AF 2 UX UW UU Pd) := AI Kf Tryz.func119 (by kernel_rfl) (by kernel_rfl) rfl (fun v => (Zg v).trans (AJV v)) (AA ASM ⟨AOz, trivial⟩)
def Oy : Env := O6.ext 119 true true (AF 2 UX UW UU Pd)
theorem Ka : AZ Tryz.prog Oy := Env.Ad Kf AFt (fun _ => AJ rfl rfl) (fun _ => AH rfl rfl)
abbrev VJ : Hints := { loop := fun n => match n with | 0 => Ab 0 18 Zk Zj EI | _ => fun _ _ _ => none }
theorem ACD : ∀ v, EI v = roundOf Tryz.prog Oy VJ 1 0 18 (AB Tryz.f120 0) Zk Zj v := by
 rintro ⟨a0, a1, a2, ⟨⟩⟩
 kernel_rfl
theorem AO3 : AD (AB Tryz.f120 0) 1 = [] := by kernel_rfl
theorem AO4 : Aa Tryz.prog 0 (.loop (AB Tryz.f120 0)) (VJ.loop 0) := AX Ka (ACD) (AA AO3 trivial)
theorem AJX : ∀ v, Na v = AN Tryz.prog Oy VJ Tryz.f120 VI VH VG v := by
 rintro ⟨a0, ⟨⟩⟩
 kernel_rfl
theorem ASO : AD (AS Tryz.f120) 0 = [(0, AB Tryz.f120 0)] := by kernel_rfl
theorem AFx : AO Tryz.prog 120 (AF 1 VI VH VG Pf) := AI Ka Tryz.func120 (by kernel_rfl) (by kernel_rfl) rfl (fun v => (Zl v).trans (AJX v)) (AA ASO ⟨AO4, trivial⟩)
def Oz : Env := Oy.ext 120 true true (AF 1 VI VH VG Pf)
theorem Kb : AZ Tryz.prog Oz := Env.Ad Ka AFx (fun _ => AJ rfl rfl) (fun _ => AH rfl rfl)
abbrev UE : Hints := { loop := fun n => match n with | 0 => Ab 1 26 ZV ZU Hi | _ => fun _ _ _ => none }
theorem ABt : ∀ v, Hi v = roundOf Tryz.prog Oz UE 1 1 26 (AB Tryz.f152 0) ZV ZU v := by
 rintro ⟨a0, a1, ⟨⟩⟩
 kernel_rfl
theorem AOq : AD (AB Tryz.f152 0) 1 = [] := by kernel_rfl
theorem AOr : Aa Tryz.prog 1 (.loop (AB Tryz.f152 0)) (UE.loop 0) := AX Kb (ABt) (AA AOq trivial)
theorem AJK : ∀ v, NU v = AN Tryz.prog Oz UE Tryz.f152 UD UC UB v := by
 rintro ⟨a0, a1, ⟨⟩⟩
 kernel_rfl
theorem ASD : AD (AS Tryz.f152) 0 = [(0, AB Tryz.f152 0)] := by kernel_rfl
theorem AFd : AO Tryz.prog 152 (AF 2 UD UC UB Ly) := AI Kb Tryz.func152 (by kernel_rfl) (by kernel_rfl) rfl (fun v => (ZW v).trans (AJK v)) (AA ASD ⟨AOr, trivial⟩)
def Xu : Env := Oz.ext 152 false true (AF 2 UD UC UB Ly)
theorem Rl : AZ Tryz.prog Xu := Env.Ad Kb AFd ((by simp)) (fun _ => AH rfl rfl)
abbrev AVH : Hints := {  }
theorem AOs : ∀ v, NV v = AN Tryz.prog Xu AVH Tryz.f151 ABw ABv ABu v := by
 rintro ⟨a0, a1, a2, ⟨⟩⟩
 kernel_rfl
theorem AVG : AD (AS Tryz.f151) 0 = [] := by kernel_rfl
theorem AJM : AO Tryz.prog 151 (AF 3 ABw ABv ABu ZY) := AI Rl Tryz.func151 (by kernel_rfl) (by kernel_rfl) rfl (fun v => (UJ v).trans (AOs v)) (AA AVG trivial)
def S4 : Env := Xu.ext 151 false true (AF 3 ABw ABv ABu ZY)
theorem Ms : AZ Tryz.prog S4 := Env.Ad Rl AJM ((by simp)) (fun _ => AH rfl rfl)
abbrev Me : Hints := { loop := fun n => match n with | 0 => Ab 1 25 RX RW BW | _ => fun _ _ _ => none }
theorem XG : ∀ v, BW v = roundOf Tryz.prog S4 Me 1 1 25 (AB Tryz.f150 0) RX RW v := by
 rintro ⟨a0, a1, a2, a3, a4, ⟨⟩⟩
 kernel_rfl
theorem AHj : AD (AB Tryz.f150 0) 1 = [] := by kernel_rfl
theorem AHk : Aa Tryz.prog 1 (.loop (AB Tryz.f150 0)) (Me.loop 0) := AX Ms (XG) (AA AHj trivial)
theorem ADl : ∀ v, GU v = AN Tryz.prog S4 Me Tryz.f150 Md Mc Mb v := by
 rintro ⟨a0, a1, ⟨⟩⟩
 kernel_rfl
theorem ALl : AD (AS Tryz.f150) 0 = [(0, AB Tryz.f150 0)] := by kernel_rfl
theorem Yr : AO Tryz.prog 150 (AF 2 Md Mc Mb Hx) := AI Ms Tryz.func150 (by kernel_rfl) (by kernel_rfl) rfl (fun v => (KD v).trans (ADl v)) (AA ALl ⟨AHk, trivial⟩)
def Mw : Env := S4.Cx 150 1 151 (AF 2 Md Mc Mb Hx)
theorem Le : AZ Tryz.prog Mw := Env.A7 Ms Yr (AH rfl rfl)
abbrev ASF : Hints := {  }
theorem AJL : ∀ v, Jc v = AN Tryz.prog Mw ASF Tryz.f121 UI UH UG v := by
 rintro ⟨a0, a1, ⟨⟩⟩
 kernel_rfl
theorem ASE : AD (AS Tryz.f121) 0 = [] := by kernel_rfl
theorem AFf : AO Tryz.prog 121 (AF 2 UI UH UG Pa) := AI Le Tryz.func121 (by kernel_rfl) (by kernel_rfl) rfl (fun v => (PZ v).trans (AJL v)) (AA ASE trivial)
def Ow : Env := Mw.ext 121 false true (AF 2 UI UH UG Pa)
theorem KZ : AZ Tryz.prog Ow := Env.Ad Le AFf ((by simp)) (fun _ => AH rfl rfl)
abbrev L5 : Hints := { loop := fun n => match n with | 0 => Ab 0 33 Q0 Qz Ck | _ => fun _ _ _ => none }
theorem US : ∀ v, Ck v = roundOf Tryz.prog Ow L5 1 0 33 (AB Tryz.f123 0) Q0 Qz v := by
 rintro ⟨a0, a1, a2, ⟨⟩⟩
 kernel_rfl
theorem AFr : AD (AB Tryz.f123 0) 1 = [] := by kernel_rfl
theorem AFs : Aa Tryz.prog 0 (.loop (AB Tryz.f123 0)) (L5.loop 0) := AX KZ (US) (AA AFr trivial)
theorem AB8 : ∀ v, IT v = AN Tryz.prog Ow L5 Tryz.f123 L4 L3 L0 v := by
 rintro ⟨a0, a1, ⟨⟩⟩
 kernel_rfl
theorem AJU : AD (AS Tryz.f123) 0 = [(0, AB Tryz.f123 0)] := by kernel_rfl
theorem YP : AO Tryz.prog 123 (AF 2 L4 L3 L0 Jg) := AI KZ Tryz.func123 (by kernel_rfl) (by kernel_rfl) rfl (fun v => (Q1 v).trans (AB8 v)) (AA AJU ⟨AFs, trivial⟩)
def En : Env := Ow.ext 123 true true (AF 2 L4 L3 L0 Jg)
theorem DL : AZ Tryz.prog En := Env.Ad KZ YP (fun _ => AJ rfl rfl) (fun _ => AH rfl rfl)
abbrev C0 : Hints := { loop := fun n => match n with | 0 => Ab 0 83 Od OZ CO | 1 => Ab 0 83 Oc OY DB | 2 => Ab 0 83 Oa OX CN | _ => fun _ _ _ => none, fp := fun n => match n with | 14 => [[], [], [0], [0], [], [], [0], [0], [], []] | 13 => [[], [], [], [], [], [], [], [], [], [], [], [], [], [], [], [], [], [], [], [0], [0], [], [], [0], [0], [], []] | 12 => [[], [], [], [], [], [], [], [], [], [], [], []] | _ => [] }
theorem SK : ∀ v, CN v = roundOf Tryz.prog En C0 3 0 83 (AB Tryz.f68 2) Oa OX v := by
 rintro ⟨a0, a1, a2, a3, a4, ⟨⟩⟩
 kernel_rfl
theorem ADu : AD (AB Tryz.f68 2) 3 = [] := by kernel_rfl
theorem ADx : Aa Tryz.prog 0 (.loop (AB Tryz.f68 2)) (C0.loop 2) := AX DL (SK) (AA ADu trivial)
theorem SM : ∀ v, DB v = roundOf Tryz.prog En C0 2 0 83 (AB Tryz.f68 1) Oc OY v := by
 rintro ⟨a0, a1, a2, a3, ⟨⟩⟩
 kernel_rfl
theorem ADv : AD (AB Tryz.f68 1) 2 = [(2, AB Tryz.f68 2)] := by kernel_rfl
theorem ADy : Aa Tryz.prog 0 (.loop (AB Tryz.f68 1)) (C0.loop 1) := AX DL (SM) (AA ADv ⟨ADx, trivial⟩)
theorem SN : ∀ v, CO v = roundOf Tryz.prog En C0 1 0 83 (AB Tryz.f68 0) Od OZ v := by
 rintro ⟨a0, a1, a2, a3, ⟨⟩⟩
 kernel_rfl
theorem ADw : AD (AB Tryz.f68 0) 1 = [] := by kernel_rfl
theorem ADz : Aa Tryz.prog 0 (.loop (AB Tryz.f68 0)) (C0.loop 0) := AX DL (SN) (AA ADw trivial)
theorem Yy : ∀ v, HA v = AN Tryz.prog En C0 Tryz.f68 KM KL KK v := by
 rintro ⟨a0, a1, ⟨⟩⟩
 kernel_rfl
theorem AHu : AD (AS Tryz.f68) 0 = [(0, AB Tryz.f68 0), (1, AB Tryz.f68 1)] := by kernel_rfl
theorem XV : AO Tryz.prog 68 (AF 2 KM KL KK Fv) := AI DL Tryz.func68 (by kernel_rfl) (by kernel_rfl) rfl (fun v => (Oe v).trans (Yy v)) (AA AHu ⟨ADz, ADy, trivial⟩)
def HK : Env := En.ext 68 true true (AF 2 KM KL KK Fv)
theorem Gk : AZ Tryz.prog HK := Env.Ad DL XV (fun _ => AJ rfl rfl) (fun _ => AH rfl rfl)
end
end Go.Pev
end
section
namespace Go.Pev
open Go.Proofs
set_option maxRecDepth 100000
noncomputable section
abbrev AA9 : Hints := { loop := fun n => match n with | 0 => Ab 0 20 AEz AEy TU | _ => fun _ _ _ => none }
theorem AEx : ∀ v, TU v = roundOf Tryz.prog HK AA9 1 0 20 (AB Tryz.f38 0) AEz AEy v := by
 rintro ⟨a0, a1, ⟨⟩⟩
 kernel_rfl
theorem ARO : AD (AB Tryz.f38 0) 1 = [] := by kernel_rfl
theorem ARP : Aa Tryz.prog 0 (.loop (AB Tryz.f38 0)) (AA9.loop 0) := AX Gk (AEx) (AA ARO trivial)
theorem AOM : ∀ v, ABA v = AN Tryz.prog HK AA9 Tryz.f38 AA8 AA7 AA6 v := by
 rintro ⟨a0, ⟨⟩⟩
 kernel_rfl
theorem AUr : AD (AS Tryz.f38) 0 = [(0, AB Tryz.f38 0)] := by kernel_rfl
theorem AIc : AO Tryz.prog 38 (AF 1 AA8 AA7 AA6 LO) := AI Gk Tryz.func38 (by kernel_rfl) (by kernel_rfl) rfl (fun v => (ARQ v).trans (AOM v)) (AA AUr ⟨ARP, trivial⟩)
def Oo : Env := HK.ext 38 true true (AF 1 AA8 AA7 AA6 LO)
theorem Iz : AZ Tryz.prog Oo := Env.Ad Gk AIc (fun _ => AJ rfl rfl) (fun _ => AH rfl rfl)
abbrev Hk : Hints := { loop := fun n => match n with | 0 => Ab 0 138 VY VW CF | 1 => Ab 0 138 VX VV Co | _ => fun _ _ _ => none, fp := fun n => match n with | 10 => [[], [], [], [0], [0], [], [], [], [], [], [4], [4], [], [], [0], [0], [], [], [], [], [], [4], [4], [], [], [0], [0], [], [], [], [], [], [4], [4], [], [], [], []] | 8 => [[4], [4], [], [], [4], [4], [4], [4], [], [], [], [4], [4], [0], [0], [], [], [], [4], [4], [], [], [], [4], [4], [0], [0], [], [], []] | _ => [] }
theorem YS : ∀ v, Co v = roundOf Tryz.prog Oo Hk 2 0 138 (AB Tryz.f50 1) VX VV v := by
 rintro ⟨a0, a1, a2, a3, a4, a5, ⟨⟩⟩
 kernel_rfl
theorem AJk : AD (AB Tryz.f50 1) 2 = [] := by kernel_rfl
theorem AJm : Aa Tryz.prog 0 (.loop (AB Tryz.f50 1)) (Hk.loop 1) := AX Iz (YS) (AA AJk trivial)
theorem YT : ∀ v, CF v = roundOf Tryz.prog Oo Hk 1 0 138 (AB Tryz.f50 0) VY VW v := by
 rintro ⟨a0, a1, a2, a3, ⟨⟩⟩
 kernel_rfl
theorem AJl : AD (AB Tryz.f50 0) 1 = [] := by kernel_rfl
theorem AJn : Aa Tryz.prog 0 (.loop (AB Tryz.f50 0)) (Hk.loop 0) := AX Iz (YT) (AA AJl trivial)
theorem AF5 : ∀ v, De v = AN Tryz.prog Oo Hk Tryz.f50 Pj Ph Pg v := by
 rintro ⟨a0, ⟨⟩⟩
 kernel_rfl
theorem APA : AD (AS Tryz.f50) 0 = [(0, AB Tryz.f50 0), (1, AB Tryz.f50 1)] := by kernel_rfl
theorem ACF : AO Tryz.prog 50 (AF 1 Pj Ph Pg Dt) := AI Iz Tryz.func50 (by kernel_rfl) (by kernel_rfl) rfl (fun v => (EN v).trans (AF5 v)) (AA APA ⟨AJn, AJm, trivial⟩)
def LF : Env := Oo.ext 50 true true (AF 1 Pj Ph Pg Dt)
theorem I7 : AZ Tryz.prog LF := Env.Ad Iz ACF (fun _ => AJ rfl rfl) (fun _ => AH rfl rfl)
abbrev QT : Hints := { loop := fun n => match n with | 0 => Ab 0 32 XD XC DV | _ => fun _ _ _ => none, fp := fun n => match n with | 7 => [[], [0], [0], [], [], [], [], [0], [0], [], [], [], [], [], [], [3, 4], []] | _ => [] }
theorem Yp : ∀ v, DV v = roundOf Tryz.prog LF QT 1 0 32 (AB Tryz.f36 0) XD XC v := by
 rintro ⟨a0, a1, a2, a3, ⟨⟩⟩
 kernel_rfl
theorem ALi : AD (AB Tryz.f36 0) 1 = [] := by kernel_rfl
theorem ALj : Aa Tryz.prog 0 (.loop (AB Tryz.f36 0)) (QT.loop 0) := AX I7 (Yp) (AA ALi trivial)
theorem AHg : ∀ v, K4 v = AN Tryz.prog LF QT Tryz.f36 QS QR QQ v := by
 rintro ⟨a0, ⟨⟩⟩
 kernel_rfl
theorem AQh : AD (AS Tryz.f36) 0 = [(0, AB Tryz.f36 0)] := by kernel_rfl
theorem ADi : AO Tryz.prog 36 (AF 1 QS QR QQ ON) := AI I7 Tryz.func36 (by kernel_rfl) (by kernel_rfl) rfl (fun v => (XE v).trans (AHg v)) (AA AQh ⟨ALj, trivial⟩)
def LH : Env := LF.ext 36 true true (AF 1 QS QR QQ ON)
theorem JB : AZ Tryz.prog LH := Env.Ad I7 ADi (fun _ => AJ rfl rfl) (fun _ => AH rfl rfl)
abbrev VD : Hints := { loop := fun n => match n with | 0 => Ab 0 26 Zi Zh Pe | _ => fun _ _ _ => none, fp := fun n => match n with | 6 => [[], [], [], [], [], [], [], [], []] | _ => [] }
theorem ACB : ∀ v, Pe v = roundOf Tryz.prog LH VD 1 0 26 (AB Tryz.f19 0) Zi Zh v := by
 rintro ⟨a0, a1, a2, ⟨⟩⟩
 kernel_rfl
theorem AO0 : AD (AB Tryz.f19 0) 1 = [] := by kernel_rfl
theorem AO1 : Aa Tryz.prog 0 (.loop (AB Tryz.f19 0)) (VD.loop 0) := AX JB (ACB) (AA AO0 trivial)
theorem AJW : ∀ v, VE v = AN Tryz.prog LH VD Tryz.f19 VC VB VA v := by
 rintro ⟨a0, a1, ⟨⟩⟩
 kernel_rfl
theorem ASN : AD (AS Tryz.f19) 0 = [(0, AB Tryz.f19 0)] := by kernel_rfl
theorem AFw : AO Tryz.prog 19 (AF 2 VC VB VA ACC) := AI JB Tryz.func19 (by kernel_rfl) (by kernel_rfl) rfl (fun v => (AO2 v).trans (AJW v)) (AA ASN ⟨AO1, trivial⟩)
def Xw : Env := LH.ext 19 true true (AF 2 VC VB VA ACC)
theorem Rn : AZ Tryz.prog Xw := Env.Ad JB AFw (fun _ => AJ rfl rfl) (fun _ => AH rfl rfl)
abbrev AXS : Hints := {  }
theorem AUt : ∀ v, AMX v = AN Tryz.prog Xw AXS Tryz.f126 ARU ART ARS v := by
 rintro ⟨a0, a1, ⟨⟩⟩
 kernel_rfl
theorem AXR : AD (AS Tryz.f126) 0 = [] := by kernel_rfl
theorem ARR : AO Tryz.prog 126 (AF 2 ARU ART ARS tof) := AI Rn Tryz.func126 (by kernel_rfl) (by kernel_rfl) rfl (fun v => (ARV v).trans (AUt v)) (AA AXR trivial)
def AN0 : Env := Xw.ext 126 true true (AF 2 ARU ART ARS tof)
theorem Xn : AZ Tryz.prog AN0 := Env.Ad Rn ARR (fun _ => AJ rfl rfl) (fun _ => AH rfl rfl)
abbrev XA : Hints := { loop := fun n => match n with | 0 => Ab 0 41 AAO AAN Ed | _ => fun _ _ _ => none }
theorem ADY : ∀ v, Ed v = roundOf Tryz.prog AN0 XA 1 0 41 (AB Tryz.f35 0) AAO AAN v := by
 rintro ⟨a0, a1, a2, a3, a4, ⟨⟩⟩
 kernel_rfl
theorem AQZ : AD (AB Tryz.f35 0) 1 = [] := by kernel_rfl
theorem AQa : Aa Tryz.prog 0 (.loop (AB Tryz.f35 0)) (XA.loop 0) := AX Xn (ADY) (AA AQZ trivial)
theorem ALb : ∀ v, OH v = AN Tryz.prog AN0 XA Tryz.f35 W9 W8 W7 v := by
 rintro ⟨a0, a1, a2, ⟨⟩⟩
 kernel_rfl
theorem AT8 : AD (AS Tryz.f35) 0 = [(0, AB Tryz.f35 0)] := by kernel_rfl
theorem AHW : AO Tryz.prog 35 (AF 3 W9 W8 W7 Io) := AI Xn Tryz.func35 (by kernel_rfl) (by kernel_rfl) rfl (fun v => (AAP v).trans (ALb v)) (AA AT8 ⟨AQa, trivial⟩)
def AIP : Env := AN0.ext 35 true true (AF 3 W9 W8 W7 Io)
theorem AIO : AZ Tryz.prog AIP := Env.Ad Xn AHW (fun _ => AJ rfl rfl) (fun _ => AH rfl rfl)
theorem AUO : (Tryz.f71.name == "runtime.NumGoroutine") = false := by kernel_rfl
theorem ADs : YC Tryz.prog Tryz.f71 22 44 (.prod (.int .i64) (.prod (.int .i64) (.prod (.int .i64) (.prod .bool .unit)))) where
 body := by kernel_rfl
 nt := by kernel_rfl
 res := by kernel_rfl
 d := ⟨by kernel_rfl, by kernel_rfl, by kernel_rfl, by kernel_rfl, by kernel_rfl, by kernel_rfl, by kernel_rfl, by kernel_rfl⟩
 g := ⟨by kernel_rfl, by kernel_rfl, by kernel_rfl, by kernel_rfl, by kernel_rfl, by kernel_rfl, by kernel_rfl, by kernel_rfl⟩
 o00 := by kernel_rfl
 o10 := by kernel_rfl
 o11 := by kernel_rfl
 o20 := by kernel_rfl
 o30 := by kernel_rfl
 o31 := by kernel_rfl
 o32 := by kernel_rfl
 o33 := by kernel_rfl
 sl := by kernel_rfl
 z := by kernel_rfl
 by1 := by kernel_rfl
def X9 : Env := AIP.ext 71 true true (Fu 44 (.prod (.int .i64) (.prod (.int .i64) (.prod (.int .i64) (.prod .bool .unit)))))
theorem Rv : AZ Tryz.prog X9 := Env.Ad AIO (AUN ADs Tryz.func71 AUO) (fun _ => JI _ _) (fun _ => (JI _ _).AXj)
abbrev APz : Hints := { fp := fun n => match n with | 3 => [[0], [0], [0], [], [], [12], [], [], [3], []] | _ => [] }
theorem AG3 : ∀ v, Ho v = AN Tryz.prog X9 APz Tryz.f41 QC QB QA v := by
 rintro ⟨a0, a1, ⟨⟩⟩
 kernel_rfl
theorem APy : AD (AS Tryz.f41) 0 = [] := by kernel_rfl
theorem ACv : AO Tryz.prog 41 (AF 2 QC QB QA Ih) := AI Rv Tryz.func41 (by kernel_rfl) (by kernel_rfl) rfl (fun v => (MH v).trans (AG3 v)) (AA APy trivial)
def LG : Env := X9.ext 41 true true (AF 2 QC QB QA Ih)
theorem I8 : AZ Tryz.prog LG := Env.Ad Rv ACv (fun _ => AJ rfl rfl) (fun _ => AH rfl rfl)
abbrev UQ : Hints := { loop := fun n => match n with | 0 => Ab 0 32 Zc Zb EG | _ => fun _ _ _ => none }
theorem AB6 : ∀ v, EG v = roundOf Tryz.prog LG UQ 1 0 32 (AB Tryz.f77 0) Zc Zb v := by
 rintro ⟨a0, a1, a2, a3, a4, ⟨⟩⟩
 kernel_rfl
theorem AOv : AD (AB Tryz.f77 0) 1 = [] := by kernel_rfl
theorem AOw : Aa Tryz.prog 0 (.loop (AB Tryz.f77 0)) (UQ.loop 0) := AX I8 (AB6) (AA AOv trivial)
theorem AJT : ∀ v, NW v = AN Tryz.prog LG UQ Tryz.f77 UP UO UN v := by
 rintro ⟨a0, a1, ⟨⟩⟩
 kernel_rfl
theorem ASL : AD (AS Tryz.f77) 0 = [(0, AB Tryz.f77 0)] := by kernel_rfl
theorem AFq : AO Tryz.prog 77 (AF 2 UP UO UN UR) := AI I8 Tryz.func77 (by kernel_rfl) (by kernel_rfl) rfl (fun v => (Zd v).trans (AJT v)) (AA ASL ⟨AOw, trivial⟩)
def Xv : Env := LG.ext 77 true true (AF 2 UP UO UN UR)
theorem Rm : AZ Tryz.prog Xv := Env.Ad I8 AFq (fun _ => AJ rfl rfl) (fun _ => AH rfl rfl)
abbrev AWN : Hints := { fp := fun n => match n with | 4 => [[0], [], [], [0], [], [], [], [], []] | _ => [] }
theorem AQb : ∀ v, Sv v = AN Tryz.prog Xv AWN Tryz.f82 ADd ADc ADb v := by
 rintro ⟨a0, a1, a2, ⟨⟩⟩
 kernel_rfl
theorem AWM : AD (AS Tryz.f82) 0 = [] := by kernel_rfl
theorem ALc : AO Tryz.prog 82 (AF 3 ADd ADc ADb AHZ) := AI Rm Tryz.func82 (by kernel_rfl) (by kernel_rfl) rfl (fun v => (AHY v).trans (AQb v)) (AA AWM trivial)
def AEW : Env := Xv.ext 82 true true (AF 3 ADd ADc ADb AHZ)
theorem X8 : AZ Tryz.prog AEW := Env.Ad Rm ALc (fun _ => AJ rfl rfl) (fun _ => AH rfl rfl)
abbrev AWJ : Hints := { fp := fun n => match n with | 4 => [[0], [0], [0], [], [], [], [], [], [], [], [], []] | _ => [] }
theorem AQS : ∀ v, ADV v = AN Tryz.prog AEW AWJ Tryz.f83 ADU ADT ADS v := by
 rintro ⟨a0, a1, ⟨⟩⟩
 kernel_rfl
theorem AWI : AD (AS Tryz.f83) 0 = [] := by kernel_rfl
theorem ALW : AO Tryz.prog 83 (AF 2 ADU ADT ADS ANi) := AI X8 Tryz.func83 (by kernel_rfl) (by kernel_rfl) rfl (fun v => (ATv v).trans (AQS v)) (AA AWI trivial)
def AEV : Env := AEW.ext 83 true true (AF 2 ADU ADT ADS ANi)
theorem X5 : AZ Tryz.prog AEV := Env.Ad X8 ALW (fun _ => AJ rfl rfl) (fun _ => AH rfl rfl)
abbrev AOo : Hints := {  }
theorem AFc : ∀ v, Kp v = AN Tryz.prog AEV AOo Tryz.f73 PY PX PW v := by
 rintro ⟨a0, a1, ⟨⟩⟩
 kernel_rfl
theorem AOn : AD (AS Tryz.f73) 0 = [] := by kernel_rfl
theorem ABs : AO Tryz.prog 73 (AF 2 PY PX PW Bq) := AI X5 Tryz.func73 (by kernel_rfl) (by kernel_rfl) rfl (fun v => (UA v).trans (AFc v)) (AA AOn trivial)
def H6 : Env := AEV.ext 73 true true (AF 2 PY PX PW Bq)
theorem Fk : AZ Tryz.prog H6 := Env.Ad X5 ABs (fun _ => AJ rfl rfl) (fun _ => AH rfl rfl)
end
end Go.Pev
end
section
namespace Go.Pev
open Go.Proofs
set_option maxRecDepth 100000
noncomputable section
abbrev Wl : Hints := { loop := fun n => match n with | 0 => Ab 1 53 ANS ANQ ANO | 1 => Ab 1 53 ANR ANP ANN | _ => fun _ _ _ => none, fp := fun n => match n with | 4 => [[], [], [], [], [], [], [], [0], [0], [], [], [], [0], [0], [], [], []] | 6 => [[], [], [], [], [], [], [], [], [0], [0], [], [], [0], [0], [0], [1], [0], [1]] | _ => [] }
theorem AK9 : ∀ v, ANN v = roundOf Tryz.prog H6 Wl 2 1 53 (AB Tryz.f148 1) ANR ANP v := by
 rintro ⟨a0, a1, a2, a3, a4, ⟨⟩⟩
 kernel_rfl
theorem AVw : AD (AB Tryz.f148 1) 2 = [] := by kernel_rfl
theorem AVy : Aa Tryz.prog 1 (.loop (AB Tryz.f148 1)) (Wl.loop 1) := AX Fk (AK9) (AA AVw trivial)
theorem ALA : ∀ v, ANO v = roundOf Tryz.prog H6 Wl 1 1 53 (AB Tryz.f148 0) ANS ANQ v := by
 rintro ⟨a0, a1, a2, a3, ⟨⟩⟩
 kernel_rfl
theorem AVx : AD (AB Tryz.f148 0) 1 = [(1, AB Tryz.f148 1)] := by kernel_rfl
theorem AVz : Aa Tryz.prog 1 (.loop (AB Tryz.f148 0)) (Wl.loop 0) := AX Fk (ALA) (AA AVx ⟨AVy, trivial⟩)
theorem ATR : ∀ v, ATS v = AN Tryz.prog H6 Wl Tryz.f148 ALD ALC ALB v := by
 rintro ⟨a0, a1, a2, ⟨⟩⟩
 kernel_rfl
theorem AXC : AD (AS Tryz.f148) 0 = [(0, AB Tryz.f148 0)] := by kernel_rfl
theorem AP7 : AO Tryz.prog 148 (AF 4 ALD ALC ALB Yn) := AI Fk Tryz.func148 (by kernel_rfl) (by kernel_rfl) rfl (fun v => (ANT v).trans (ATR v)) (AA AXC ⟨AVz, trivial⟩)
def AET : Env := H6.Cx 148 3 73 (AF 4 ALD ALC ALB Yn)
theorem Qq : AZ Tryz.prog AET := Env.A7 Fk AP7 (AH rfl rfl)
abbrev ABN : Hints := { loop := fun n => match n with | 0 => Ab 1 38 AE8 AE7 GF | _ => fun _ _ _ => none, fp := fun n => match n with | 3 => [[], [], [], [], [], [], [], [], [], [], [], [], [0], [0], [], [], [], [], [0], [0], [0], [1], [0], [1]] | _ => [] }
theorem AE6 : ∀ v, GF v = roundOf Tryz.prog AET ABN 1 1 38 (AB Tryz.f194 0) AE8 AE7 v := by
 rintro ⟨a0, a1, a2, a3, a4, ⟨⟩⟩
 kernel_rfl
theorem ARm : AD (AB Tryz.f194 0) 1 = [] := by kernel_rfl
theorem ARn : Aa Tryz.prog 1 (.loop (AB Tryz.f194 0)) (ABN.loop 0) := AX Qq (AE6) (AA ARm trivial)
theorem AOV : ∀ v, Sa v = AN Tryz.prog AET ABN Tryz.f194 ABM ABL ABK v := by
 rintro ⟨a0, a1, a2, a3, ⟨⟩⟩
 kernel_rfl
theorem AU8 : AD (AS Tryz.f194) 0 = [(0, AB Tryz.f194 0)] := by kernel_rfl
theorem AIu : AO Tryz.prog 194 (AF 5 ABM ABL ABK Ta) := AI Qq Tryz.func194 (by kernel_rfl) (by kernel_rfl) rfl (fun v => (AE9 v).trans (AOV v)) (AA AU8 ⟨ARn, trivial⟩)
def S3 : Env := AET.Cx 194 4 73 (AF 5 ABM ABL ABK Ta)
theorem Mq : AZ Tryz.prog S3 := Env.A7 Qq AIu (AH rfl rfl)
abbrev AJi : Hints := { loop := fun n => match n with | 0 => Ab 1 58 AMu AMt Kq | _ => fun _ _ _ => none }
theorem AJe : ∀ v, Kq v = roundOf Tryz.prog S3 AJi 1 1 58 (AB Tryz.f175 0) AMu AMt v := by
 rintro ⟨a0, a1, a2, a3, ⟨⟩⟩
 kernel_rfl
theorem AVL : AD (AB Tryz.f175 0) 1 = [] := by kernel_rfl
theorem AVM : Aa Tryz.prog 1 (.loop (AB Tryz.f175 0)) (AJi.loop 0) := AX Mq (AJe) (AA AVL trivial)
theorem ASV : ∀ v, ACE v = AN Tryz.prog S3 AJi Tryz.f175 AJh AJg AJf v := by
 rintro ⟨a0, a1, a2, a3, ⟨⟩⟩
 kernel_rfl
theorem AWv : AD (AS Tryz.f175) 0 = [(0, AB Tryz.f175 0)] := by kernel_rfl
theorem AO5 : AO Tryz.prog 175 (AF 5 AJh AJg AJf AJj) := AI Mq Tryz.func175 (by kernel_rfl) (by kernel_rfl) rfl (fun v => (AMv v).trans (ASV v)) (AA AWv ⟨AVM, trivial⟩)
def AMP : Env := S3.Cx 175 4 73 (AF 5 AJh AJg AJf AJj)
theorem AAe : AZ Tryz.prog AMP := Env.A7 Mq AO5 (AH rfl rfl)
abbrev GC (self : (List (Int × Int × Int × Bool × Unit) × Int × Int × Int × Unit) → Option ((List (Int × Int × Int × Bool × Unit) × Unit))) : Hints := { loop := fun n => match n with | 0 => Ab 1 220 AMk AMf (II self) | 1 => Ab 1 220 AMj AMe (IH self) | 2 => Ab 1 220 AMi AMd (IG self) | 3 => Ab 1 220 AMh AMc (IF self) | 4 => Ab 1 220 AMg AMb (Dp self) | _ => fun _ _ _ => none, fp := fun n => match n with | 5 => [[], [], [], [0], [0], [], [], [0], [0], [], []] | 11 => [[], [], [], [], [], [], [], [], [0], [0], [], [], [0], [0], [0], [1], [0], [1]] | 17 => [[], [], [], [0], [0], [], [], [0], [0], [], [], []] | 23 => [[], [], [], [], [], [], [], [], [0], [0], [], [], [0], [0], [0], [1], [0], [1]] | 35 => [[], [], [], [], [], [0], [0], [], [], [0], [0], [], [], []] | _ => [] }
abbrev FG (self : (List (Int × Int × Int × Bool × Unit) × Int × Int × Int × Unit) → Option ((List (Int × Int × Int × Bool × Unit) × Unit))) : Env := AMP.ext 149 false true (AF 5 TZ TY TX self)
theorem AIk (self : (List (Int × Int × Int × Bool × Unit) × Int × Int × Int × Unit) → Option ((List (Int × Int × Int × Bool × Unit) × Unit))) : ∀ v, Dp self v = roundOf Tryz.prog (FG self) (GC self) 5 1 220 (AB Tryz.f149 4) AMg AMb v := by
 rintro ⟨a0, a1, a2, a3, a4, a5, a6, a7, a8, ⟨⟩⟩
 kernel_rfl
theorem AUy : AD (AB Tryz.f149 4) 5 = [] := by kernel_rfl
theorem AU3 (self : (List (Int × Int × Int × Bool × Unit) × Int × Int × Int × Unit) → Option ((List (Int × Int × Int × Bool × Unit) × Unit))) (hE : AZ Tryz.prog (FG self)) : Aa Tryz.prog 1 (.loop (AB Tryz.f149 4)) ((GC self).loop 4) := AX hE (AIk self) (AA AUy trivial)
theorem AIl (self : (List (Int × Int × Int × Bool × Unit) × Int × Int × Int × Unit) → Option ((List (Int × Int × Int × Bool × Unit) × Unit))) : ∀ v, IF self v = roundOf Tryz.prog (FG self) (GC self) 4 1 220 (AB Tryz.f149 3) AMh AMc v := by
 rintro ⟨a0, a1, a2, ⟨⟩⟩
 kernel_rfl
theorem AUz : AD (AB Tryz.f149 3) 4 = [] := by kernel_rfl
theorem AU4 (self : (List (Int × Int × Int × Bool × Unit) × Int × Int × Int × Unit) → Option ((List (Int × Int × Int × Bool × Unit) × Unit))) (hE : AZ Tryz.prog (FG self)) : Aa Tryz.prog 1 (.loop (AB Tryz.f149 3)) ((GC self).loop 3) := AX hE (AIl self) (AA AUz trivial)
theorem AIm (self : (List (Int × Int × Int × Bool × Unit) × Int × Int × Int × Unit) → Option ((List (Int × Int × Int × Bool × Unit) × Unit))) : ∀ v, IG self v = roundOf Tryz.prog (FG self) (GC self) 3 1 220 (AB Tryz.f149 2) AMi AMd v := by
 rintro ⟨a0, a1, a2, a3, ⟨⟩⟩
 kernel_rfl
theorem AU0 : AD (AB Tryz.f149 2) 3 = [] := by kernel_rfl
theorem AU5 (self : (List (Int × Int × Int × Bool × Unit) × Int × Int × Int × Unit) → Option ((List (Int × Int × Int × Bool × Unit) × Unit))) (hE : AZ Tryz.prog (FG self)) : Aa Tryz.prog 1 (.loop (AB Tryz.f149 2)) ((GC self).loop 2) := AX hE (AIm self) (AA AU0 trivial)
theorem AIn (self : (List (Int × Int × Int × Bool × Unit) × Int × Int × Int × Unit) → Option ((List (Int × Int × Int × Bool × Unit) × Unit))) : ∀ v, IH self v = roundOf Tryz.prog (FG self) (GC self) 2 1 220 (AB Tryz.f149 1) AMj AMe v := by
 rintro ⟨a0, a1, a2, ⟨⟩⟩
 kernel_rfl
theorem AU1 : AD (AB Tryz.f149 1) 2 = [] := by kernel_rfl
theorem AU6 (self : (List (Int × Int × Int × Bool × Unit) × Int × Int × Int × Unit) → Option ((List (Int × Int × Int × Bool × Unit) × Unit))) (hE : AZ Tryz.prog (FG self)) : Aa Tryz.prog 1 (.loop (AB Tryz.f149 1)) ((GC self).loop 1) := AX hE (AIn self) (AA AU1 trivial)
theorem AIo (self : (List (Int × Int × Int × Bool × Unit) × Int × Int × Int × Unit) → Option ((List (Int × Int × Int × Bool × Unit) × Unit))) : ∀ v, II self v = roundOf Tryz.prog (FG self) (GC self) 1 1 220 (AB Tryz.f149 0) AMk AMf v := by
 rintro ⟨a0, a1, a2, a3, ⟨⟩⟩
 kernel_rfl
theorem AU2 : AD (AB Tryz.f149 0) 1 = [] := by kernel_rfl
theorem AU7 (self : (List (Int × Int × Int × Bool × Unit) × Int × Int × Int × Unit) → Option ((List (Int × Int × Int × Bool × Unit) × Unit))) (hE : AZ Tryz.prog (FG self)) : Aa Tryz.prog 1 (.loop (AB Tryz.f149 0)) ((GC self).loop 0) := AX hE (AIo self) (AA AU2 trivial)
theorem ARk (self : (List (Int × Int × Int × Bool × Unit) × Int × Int × Int × Unit) → Option ((List (Int × Int × Int × Bool × Unit) × Unit))) : ∀ v, JO self v = AN Tryz.prog (FG self) (GC self) Tryz.f149 TZ TY TX v := by
 rintro ⟨a0, a1, a2, a3, ⟨⟩⟩
 kernel_rfl
theorem AWs : AD (AS Tryz.f149) 0 = [(0, AB Tryz.f149 0), (1, AB Tryz.f149 1), (2, AB Tryz.f149 2), (3, AB Tryz.f149 3), (4, AB Tryz.f149 4)] := by kernel_rfl
theorem AIr : ∀ n, AO Tryz.prog 149 (AF 5 TZ TY TX (GD n)) := by
 intro n
 induction n with
 | zero => exact RJ fun _ => rfl
 | succ n ih =>
  have hE : AZ Tryz.prog (FG (GD n)) := Env.Ad AAe ih ((by simp)) (fun _ => AH rfl rfl)
  let self := GD n
  exact AI hE Tryz.func149 (by kernel_rfl) (by kernel_rfl) rfl (ARk self) (AA AWs ⟨(AU7 self hE), (AU6 self hE), (AU5 self hE), (AU4 self hE), (AU3 self hE), trivial⟩)
theorem AOT : AO Tryz.prog 149 (AF 5 TZ TY TX AIt) := by
 have e : AIt = GD 100 := funext AMl
 rw [e]
 exact AIr _
def Ql : Env := AMP.Cx 149 4 73 (AF 5 TZ TY TX AIt)
theorem H4 : AZ Tryz.prog Ql := Env.A7 AAe AOT (AH rfl rfl)
abbrev IK : Hints := { loop := fun n => match n with | 0 => Ab 1 63 AFJ AFG GG | 1 => Ab 1 63 AFI AFF Dq | 2 => Ab 1 63 AFH AFE JP | _ => fun _ _ _ => none }
theorem AFB : ∀ v, JP v = roundOf Tryz.prog Ql IK 3 1 63 (AB Tryz.f117 2) AFH AFE v := by
 rintro ⟨a0, a1, a2, a3, a4, ⟨⟩⟩
 kernel_rfl
theorem ARq : AD (AB Tryz.f117 2) 3 = [] := by kernel_rfl
theorem ARt : Aa Tryz.prog 1 (.loop (AB Tryz.f117 2)) (IK.loop 2) := AX H4 (AFB) (AA ARq trivial)
theorem AFC : ∀ v, Dq v = roundOf Tryz.prog Ql IK 2 1 63 (AB Tryz.f117 1) AFI AFF v := by
 rintro ⟨a0, a1, a2, ⟨⟩⟩
 kernel_rfl
theorem ARr : AD (AB Tryz.f117 1) 2 = [(2, AB Tryz.f117 2)] := by kernel_rfl
theorem ARu : Aa Tryz.prog 1 (.loop (AB Tryz.f117 1)) (IK.loop 1) := AX H4 (AFC) (AA ARr ⟨ARt, trivial⟩)
theorem AFD : ∀ v, GG v = roundOf Tryz.prog Ql IK 1 1 63 (AB Tryz.f117 0) AFJ AFG v := by
 rintro ⟨a0, a1, a2, a3, a4, ⟨⟩⟩
 kernel_rfl
theorem ARs : AD (AB Tryz.f117 0) 1 = [] := by kernel_rfl
theorem ARv : Aa Tryz.prog 1 (.loop (AB Tryz.f117 0)) (IK.loop 0) := AX H4 (AFD) (AA ARs trivial)
theorem AOY : ∀ v, Sc v = AN Tryz.prog Ql IK Tryz.f117 ABQ ABP ABO v := by
 rintro ⟨a0, a1, ⟨⟩⟩
 kernel_rfl
theorem AU9 : AD (AS Tryz.f117) 0 = [(0, AB Tryz.f117 0), (1, AB Tryz.f117 1)] := by kernel_rfl
theorem AI2 : AO Tryz.prog 117 (AF 3 ABQ ABP ABO AMo) := AI H4 Tryz.func117 (by kernel_rfl) (by kernel_rfl) rfl (fun v => (AFK v).trans (AOY v)) (AA AU9 ⟨ARv, ARu, trivial⟩)
def AEP : Env := Ql.Cx 117 2 73 (AF 3 ABQ ABP ABO AMo)
theorem Xp : AZ Tryz.prog AEP := Env.A7 H4 AI2 (AH rfl rfl)
abbrev ARy : Hints := {  }
theorem AI6 : ∀ v, NJ v = AN Tryz.prog AEP ARy Tryz.f72 Tn Tm Tl v := by
 rintro ⟨a0, ⟨⟩⟩
 kernel_rfl
theorem ARx : AD (AS Tryz.f72) 0 = [] := by kernel_rfl
theorem AFP : AO Tryz.prog 72 (AF 2 Tn Tm Tl To) := AI Xp Tryz.func72 (by kernel_rfl) (by kernel_rfl) rfl (fun v => (ZL v).trans (AI6 v)) (AA ARx trivial)
def Oq : Env := AEP.Cx 72 1 73 (AF 2 Tn Tm Tl To)
theorem KT : AZ Tryz.prog Oq := Env.A7 Xp AFP (AH rfl rfl)
abbrev Tg : Hints := { loop := fun n => match n with | 0 => Ab 0 36 ZJ ZI Dd | _ => fun _ _ _ => none }
theorem ABR : ∀ v, Dd v = roundOf Tryz.prog Oq Tg 1 0 36 (AB Tryz.f75 0) ZJ ZI v := by
 rintro ⟨a0, a1, a2, a3, a4, ⟨⟩⟩
 kernel_rfl
theorem AOZ : AD (AB Tryz.f75 0) 1 = [] := by kernel_rfl
theorem AOa : Aa Tryz.prog 0 (.loop (AB Tryz.f75 0)) (Tg.loop 0) := AX KT (ABR) (AA AOZ trivial)
theorem AI4 : ∀ v, NA v = AN Tryz.prog Oq Tg Tryz.f75 Tf Te Td v := by
 rintro ⟨a0, a1, ⟨⟩⟩
 kernel_rfl
theorem ARw : AD (AS Tryz.f75) 0 = [(0, AB Tryz.f75 0)] := by kernel_rfl
theorem AFL : AO Tryz.prog 75 (AF 2 Tf Te Td Th) := AI KT Tryz.func75 (by kernel_rfl) (by kernel_rfl) rfl (fun v => (ZK v).trans (AI4 v)) (AA ARw ⟨AOa, trivial⟩)
def Xq : Env := Oq.ext 75 true true (AF 2 Tf Te Td Th)
theorem Rh : AZ Tryz.prog Xq := Env.Ad KT AFL (fun _ => AJ rfl rfl) (fun _ => AH rfl rfl)
abbrev AR8 : Hints := { fp := fun n => match n with | 4 => [[0], [0], [0], [], [12], [], [], [], [], []] | _ => [] }
theorem AJD : ∀ v, JT v = AN Tryz.prog Xq AR8 Tryz.f20 T2 T1 Tz v := by
 rintro ⟨a0, ⟨⟩⟩
 kernel_rfl
theorem AR7 : AD (AS Tryz.f20) 0 = [] := by kernel_rfl
theorem AFT : AO Tryz.prog 20 (AF 1 T2 T1 Tz IM) := AI Rh Tryz.func20 (by kernel_rfl) (by kernel_rfl) rfl (fun v => (PN v).trans (AJD v)) (AA AR7 trivial)
def Ou : Env := Xq.ext 20 true true (AF 1 T2 T1 Tz IM)
theorem KU : AZ Tryz.prog Ou := Env.Ad Rh AFT (fun _ => AJ rfl rfl) (fun _ => AH rfl rfl)
abbrev Jb : Hints := { loop := fun n => match n with | 0 => Ab 0 27 NR NQ CC | _ => fun _ _ _ => none }
theorem R4 : ∀ v, CC v = roundOf Tryz.prog Ou Jb 1 0 27 (AB Tryz.f79 0) NR NQ v := by
 rintro ⟨a0, a1, a2, a3, ⟨⟩⟩
 kernel_rfl
theorem ABp : AD (AB Tryz.f79 0) 1 = [] := by kernel_rfl
theorem ABq : Aa Tryz.prog 0 (.loop (AB Tryz.f79 0)) (Jb.loop 0) := AX KU (R4) (AA ABp trivial)
theorem YN : ∀ v, Gr v = AN Tryz.prog Ou Jb Tryz.f79 Ja JZ JY v := by
 rintro ⟨a0, ⟨⟩⟩
 kernel_rfl
theorem AFZ : AD (AS Tryz.f79) 0 = [(0, AB Tryz.f79 0)] := by kernel_rfl
theorem T5 : AO Tryz.prog 79 (AF 1 Ja JZ JY Fq) := AI KU Tryz.func79 (by kernel_rfl) (by kernel_rfl) rfl (fun v => (NS v).trans (YN v)) (AA AFZ ⟨ABq, trivial⟩)
def KY : Env := Ou.ext 79 true true (AF 1 Ja JZ JY Fq)
theorem KX : AZ Tryz.prog KY := Env.Ad KU T5 (fun _ => AJ rfl rfl) (fun _ => AH rfl rfl)
theorem AVF : Tryz.f81.body.isSome = true := by kernel_rfl
theorem AVE : (Tryz.f81.name == "runtime.NumGoroutine") = false := by kernel_rfl
theorem AVD : loops (AS Tryz.f81) = 0 := by kernel_rfl
def LD : Env := KY.ext 81 false false (Ct Tryz.prog KY { fp := fun n => match n with | 1 => [[0], [10], [10], [], [], [10], [10], [10], [10], [], [], [], [], [], []] | _ => [] } Tryz.f81)
theorem I4 : AZ Tryz.prog LD := Env.Ad KX (Cv KX Tryz.func81 AVF AVE AVD) (by simp) (by simp)
abbrev HW : Hints := { loop := fun n => match n with | 0 => Ab 1 19 J1 J0 Bl | _ => fun _ _ _ => none }
theorem N5 : ∀ v, Bl v = roundOf Tryz.prog LD HW 1 1 19 (AB Tryz.f124 0) J1 J0 v := by
 rintro ⟨a0, a1, a2, a3, ⟨⟩⟩
 kernel_rfl
theorem Wt : AD (AB Tryz.f124 0) 1 = [] := by kernel_rfl
theorem Wu : Aa Tryz.prog 1 (.loop (AB Tryz.f124 0)) (HW.loop 0) := AX I4 (N5) (AA Wt trivial)
theorem SB : ∀ v, Ex v = AN Tryz.prog LD HW Tryz.f124 HV HU HT v := by
 rintro ⟨a0, a1, ⟨⟩⟩
 kernel_rfl
theorem Yo : AD (AS Tryz.f124) 0 = [(0, AB Tryz.f124 0)] := by kernel_rfl
theorem QF : AO Tryz.prog 124 (AF 2 HV HU HT Gy) := AI I4 Tryz.func124 (by kernel_rfl) (by kernel_rfl) rfl (fun v => (J2 v).trans (SB v)) (AA Yo ⟨Wu, trivial⟩)
def Hg : Env := LD.Cx 124 1 81 (AF 2 HV HU HT Gy)
theorem H8 : AZ Tryz.prog Hg := Env.A7 I4 QF (AH rfl rfl)
abbrev XO : Hints := {  }
theorem QV : ∀ v, D2 v = AN Tryz.prog Hg XO Tryz.f80 GX GW GV v := by
 rintro ⟨a0, a1, ⟨⟩⟩
 kernel_rfl
theorem XN : AD (AS Tryz.f80) 0 = [] := by kernel_rfl
theorem OR : AO Tryz.prog 80 (AF 2 GX GW GV Fe) := AI H8 Tryz.func80 (by kernel_rfl) (by kernel_rfl) rfl (fun v => (JH v).trans (QV v)) (AA XN trivial)
def Gj : Env := Hg.Cx 80 1 81 (AF 2 GX GW GV Fe)
theorem HJ : AZ Tryz.prog Gj := Env.A7 H8 OR (AH rfl rfl)
end
end Go.Pev
end
section
namespace Go.Pev
open Go.Proofs
set_option maxRecDepth 100000
noncomputable section
abbrev AOk : Hints := {  }
theorem AFW : ∀ v, Ko v = AN Tryz.prog Gj AOk Tryz.f22 PV PU PT v := by
 rintro ⟨a0, ⟨⟩⟩
 kernel_rfl
theorem AOj : AD (AS Tryz.f22) 0 = [] := by kernel_rfl
theorem ABi : AO Tryz.prog 22 (AF 1 PV PU PT IN) := AI HJ Tryz.func22 (by kernel_rfl) (by kernel_rfl) rfl (fun v => (T3 v).trans (AFW v)) (AA AOj trivial)
def H5 : Env := Gj.ext 22 true true (AF 1 PV PU PT IN)
theorem Fj : AZ Tryz.prog H5 := Env.Ad HJ ABi (fun _ => AJ rfl rfl) (fun _ => AH rfl rfl)
abbrev E1 : Hints := { loop := fun n => match n with | 0 => Ab 0 42 NP NN IQ | 1 => Ab 0 42 NO NM IP | _ => fun _ _ _ => none }
theorem R2 : ∀ v, IP v = roundOf Tryz.prog H5 E1 2 0 42 (AB Tryz.f24 1) NO NM v := by
 rintro ⟨a0, a1, a2, a3, a4, a5, a6, a7, a8, a9, ⟨⟩⟩
 kernel_rfl
theorem ABk : AD (AB Tryz.f24 1) 2 = [] := by kernel_rfl
theorem ABm : Aa Tryz.prog 0 (.loop (AB Tryz.f24 1)) (E1.loop 1) := AX Fj (R2) (AA ABk trivial)
theorem R3 : ∀ v, IQ v = roundOf Tryz.prog H5 E1 1 0 42 (AB Tryz.f24 0) NP NN v := by
 rintro ⟨a0, a1, a2, a3, a4, ⟨⟩⟩
 kernel_rfl
theorem ABl : AD (AB Tryz.f24 0) 1 = [(1, AB Tryz.f24 1)] := by kernel_rfl
theorem ABn : Aa Tryz.prog 0 (.loop (AB Tryz.f24 0)) (E1.loop 0) := AX Fj (R3) (AA ABl ⟨ABm, trivial⟩)
theorem YL : ∀ v, JX v = AN Tryz.prog H5 E1 Tryz.f24 JW JV JU v := by
 rintro ⟨a0, ⟨⟩⟩
 kernel_rfl
theorem AFY : AD (AS Tryz.f24) 0 = [(0, AB Tryz.f24 0)] := by kernel_rfl
theorem T4 : AO Tryz.prog 24 (AF 1 JW JV JU Fp) := AI Fj Tryz.func24 (by kernel_rfl) (by kernel_rfl) rfl (fun v => (ABo v).trans (YL v)) (AA AFY ⟨ABn, trivial⟩)
def KW : Env := H5.ext 24 true true (AF 1 JW JV JU Fp)
theorem KV : AZ Tryz.prog KW := Env.Ad Fj T4 (fun _ => AJ rfl rfl) (fun _ => AH rfl rfl)
abbrev AOi : Hints := {  }
theorem AFU : ∀ v, PS v = AN Tryz.prog KW AOi Tryz.f26 PR PQ PO v := by
 rintro ⟨a0, ⟨⟩⟩
 kernel_rfl
theorem AOh : AD (AS Tryz.f26) 0 = [] := by kernel_rfl
theorem ABh : AO Tryz.prog 26 (AF 1 PR PQ PO Se) := AI KV Tryz.func26 (by kernel_rfl) (by kernel_rfl) rfl (fun v => (AJF v).trans (AFU v)) (AA AOh trivial)
def Qm : Env := KW.ext 26 true true (AF 1 PR PQ PO Se)
theorem Ov : AZ Tryz.prog Qm := Env.Ad KV ABh (fun _ => AJ rfl rfl) (fun _ => AH rfl rfl)
theorem ASB : Tryz.f85.body.isSome = true := by kernel_rfl
theorem ASA : (Tryz.f85.name == "runtime.NumGoroutine") = false := by kernel_rfl
theorem AR9 : loops (AS Tryz.f85) = 0 := by kernel_rfl
def I5 : Env := Qm.ext 85 false false (Ct Tryz.prog Qm {} Tryz.f85)
theorem He : AZ Tryz.prog I5 := Env.Ad Ov (Cv Ov Tryz.func85 ASB ASA AR9) (by simp) (by simp)
abbrev Tw : Hints := { loop := fun n => match n with | 0 => Ab 0 26 ZQ ZP PM | _ => fun _ _ _ => none }
theorem ABf : ∀ v, PM v = roundOf Tryz.prog I5 Tw 1 0 26 (AB Tryz.f84 0) ZQ ZP v := by
 rintro ⟨a0, a1, a2, a3, ⟨⟩⟩
 kernel_rfl
theorem AOe : AD (AB Tryz.f84 0) 1 = [] := by kernel_rfl
theorem AOf : Aa Tryz.prog 0 (.loop (AB Tryz.f84 0)) (Tw.loop 0) := AX He (ABf) (AA AOe trivial)
theorem AJB : ∀ v, Tx v = AN Tryz.prog I5 Tw Tryz.f84 Tv Tu Tt v := by
 rintro ⟨a0, ⟨⟩⟩
 kernel_rfl
theorem AR6 : AD (AS Tryz.f84) 0 = [(0, AB Tryz.f84 0)] := by kernel_rfl
theorem AFS : AO Tryz.prog 84 (AF 2 Tv Tu Tt ABg) := AI He Tryz.func84 (by kernel_rfl) (by kernel_rfl) rfl (fun v => (AOg v).trans (AJB v)) (AA AR6 ⟨AOf, trivial⟩)
def Xs : Env := I5.Cx 84 1 85 (AF 2 Tv Tu Tt ABg)
theorem Rj : AZ Tryz.prog Xs := Env.A7 He AFS (AH rfl rfl)
abbrev AJH : Hints := {  }
theorem ABj : ∀ v, Lw v = AN Tryz.prog Xs AJH Tryz.f28 Lv Lu Lt v := by
 rintro ⟨a0, ⟨⟩⟩
 kernel_rfl
theorem AJG : AD (AS Tryz.f28) 0 = [] := by kernel_rfl
theorem YK : AO Tryz.prog 28 (AF 1 Lv Lu Lt NL) := AI Rj Tryz.func28 (by kernel_rfl) (by kernel_rfl) rfl (fun v => (AFX v).trans (ABj v)) (AA AJG trivial)
def Mr : Env := Xs.ext 28 true true (AF 1 Lv Lu Lt NL)
theorem Lc : AZ Tryz.prog Mr := Env.Ad Rj YK (fun _ => AJ rfl rfl) (fun _ => AH rfl rfl)
theorem AR4 : Tryz.f86.body.isSome = true := by kernel_rfl
theorem AR3 : (Tryz.f86.name == "runtime.NumGoroutine") = false := by kernel_rfl
theorem AR2 : loops (AS Tryz.f86) = 0 := by kernel_rfl
def I3 : Env := Mr.ext 86 false false (Ct Tryz.prog Mr {} Tryz.f86)
theorem Hd : AZ Tryz.prog I3 := Env.Ad Lc (Cv Lc Tryz.func86 AR4 AR3 AR2) (by simp) (by simp)
abbrev Ts : Hints := { loop := fun n => match n with | 0 => Ab 0 26 ZN ZM EF | _ => fun _ _ _ => none }
theorem ABd : ∀ v, EF v = roundOf Tryz.prog I3 Ts 1 0 26 (AB Tryz.f84 0) ZN ZM v := by
 rintro ⟨a0, a1, a2, a3, ⟨⟩⟩
 kernel_rfl
theorem AOc : AD (AB Tryz.f84 0) 1 = [] := by kernel_rfl
theorem AOd : Aa Tryz.prog 0 (.loop (AB Tryz.f84 0)) (Ts.loop 0) := AX Hd (ABd) (AA AOc trivial)
theorem AJA : ∀ v, NK v = AN Tryz.prog I3 Ts Tryz.f84 Tr Tq Tp v := by
 rintro ⟨a0, ⟨⟩⟩
 kernel_rfl
theorem AR5 : AD (AS Tryz.f84) 0 = [(0, AB Tryz.f84 0)] := by kernel_rfl
theorem AFR : AO Tryz.prog 84 (AF 2 Tr Tq Tp ABe) := AI Hd Tryz.func84 (by kernel_rfl) (by kernel_rfl) rfl (fun v => (ZO v).trans (AJA v)) (AA AR5 ⟨AOd, trivial⟩)
def Xr : Env := I3.Cx 84 1 86 (AF 2 Tr Tq Tp ABe)
theorem Ri : AZ Tryz.prog Xr := Env.A7 Hd AFR (AH rfl rfl)
abbrev AI9 : Hints := {  }
theorem ABc : ∀ v, IL v = AN Tryz.prog Xr AI9 Tryz.f30 Ls Lr Lq v := by
 rintro ⟨a0, ⟨⟩⟩
 kernel_rfl
theorem AI8 : AD (AS Tryz.f30) 0 = [] := by kernel_rfl
theorem YJ : AO Tryz.prog 30 (AF 1 Ls Lr Lq GH) := AI Ri Tryz.func30 (by kernel_rfl) (by kernel_rfl) rfl (fun v => (Qy v).trans (ABc v)) (AA AI8 trivial)
def I2 : Env := Xr.ext 30 true true (AF 1 Ls Lr Lq GH)
theorem Hc : AZ Tryz.prog I2 := Env.Ad Ri YJ (fun _ => AJ rfl rfl) (fun _ => AH rfl rfl)
abbrev T9 : Hints := { loop := fun n => match n with | 0 => Ab 0 37 ZS ZR C3 | _ => fun _ _ _ => none }
theorem ABr : ∀ v, C3 v = roundOf Tryz.prog I2 T9 1 0 37 (AB Tryz.f17 0) ZS ZR v := by
 rintro ⟨a0, a1, a2, a3, a4, a5, ⟨⟩⟩
 kernel_rfl
theorem AOl : AD (AB Tryz.f17 0) 1 = [] := by kernel_rfl
theorem AOm : Aa Tryz.prog 0 (.loop (AB Tryz.f17 0)) (T9.loop 0) := AX Hc (ABr) (AA AOl trivial)
theorem AJJ : ∀ v, NT v = AN Tryz.prog I2 T9 Tryz.f17 T8 T7 T6 v := by
 rintro ⟨a0, ⟨⟩⟩
 kernel_rfl
theorem ASC : AD (AS Tryz.f17) 0 = [(0, AB Tryz.f17 0)] := by kernel_rfl
theorem AFa : AO Tryz.prog 17 (AF 1 T8 T7 T6 Lx) := AI Hc Tryz.func17 (by kernel_rfl) (by kernel_rfl) rfl (fun v => (ZT v).trans (AJJ v)) (AA ASC ⟨AOm, trivial⟩)
def Xt : Env := I2.ext 17 true true (AF 1 T8 T7 T6 Lx)
theorem Rk : AZ Tryz.prog Xt := Env.Ad Hc AFa (fun _ => AJ rfl rfl) (fun _ => AH rfl rfl)
abbrev AQ2 : Hints := {  }
theorem AIC : ∀ v, Qh v = AN Tryz.prog Xt AQ2 Tryz.f15 Qg Qf Qe v := by
 rintro ⟨⟨⟩⟩
 kernel_rfl
theorem AQ1 : AD (AS Tryz.f15) 0 = [] := by kernel_rfl
theorem AEG : AO Tryz.prog 15 (AF 0 Qg Qf Qe HC) := AI Rk Tryz.func15 (by kernel_rfl) (by kernel_rfl) rfl (fun v => (AMI v).trans (AIC v)) (AA AQ1 trivial)
def Qw : Env := Xt.ext 15 true true (AF 0 Qg Qf Qe HC)
theorem PB : AZ Tryz.prog Qw := Env.Ad Rk AEG (fun _ => AJ rfl rfl) (fun _ => AH rfl rfl)
abbrev AQN : Hints := {  }
theorem AHP : ∀ v, K2 v = AN Tryz.prog Qw AQN Tryz.f16 QN QM QL v := by
 rintro ⟨a0, ⟨⟩⟩
 kernel_rfl
theorem AQM : AD (AS Tryz.f16) 0 = [] := by kernel_rfl
theorem ADQ : AO Tryz.prog 16 (AF 1 QN QM QL K3) := AI PB Tryz.func16 (by kernel_rfl) (by kernel_rfl) rfl (fun v => (Wy v).trans (AHP v)) (AA AQM trivial)
def F5 : Env := Qw.ext 16 true true (AF 1 QN QM QL K3)
theorem D9 : AZ Tryz.prog F5 := Env.Ad PB ADQ (fun _ => AJ rfl rfl) (fun _ => AH rfl rfl)
end
end Go.Pev
end
section
namespace Go.Pev
open Go.Proofs
set_option maxRecDepth 100000
noncomputable section
abbrev Cu : Hints := { loop := fun n => match n with | 0 => Ab 0 71 Nz Nw CK | 1 => Ab 0 71 Ny Nv CJ | 2 => Ab 0 71 Nx Nu Bt | _ => fun _ _ _ => none, fp := fun n => match n with | 10 => [[], [], [], [], [], [], [0], [0], [], [], [], [], [], [], [0], [0], [], []] | _ => [] }
theorem R8 : ∀ v, Bt v = roundOf Tryz.prog F5 Cu 3 0 71 (AB Tryz.f37 2) Nx Nu v := by
 rintro ⟨a0, a1, a2, a3, a4, a5, a6, a7, ⟨⟩⟩
 kernel_rfl
theorem AC2 : AD (AB Tryz.f37 2) 3 = [] := by kernel_rfl
theorem AC5 : Aa Tryz.prog 0 (.loop (AB Tryz.f37 2)) (Cu.loop 2) := AX D9 (R8) (AA AC2 trivial)
theorem R9 : ∀ v, CJ v = roundOf Tryz.prog F5 Cu 2 0 71 (AB Tryz.f37 1) Ny Nv v := by
 rintro ⟨a0, a1, a2, a3, a4, ⟨⟩⟩
 kernel_rfl
theorem AC3 : AD (AB Tryz.f37 1) 2 = [(2, AB Tryz.f37 2)] := by kernel_rfl
theorem AC6 : Aa Tryz.prog 0 (.loop (AB Tryz.f37 1)) (Cu.loop 1) := AX D9 (R9) (AA AC3 ⟨AC5, trivial⟩)
theorem SA : ∀ v, CK v = roundOf Tryz.prog F5 Cu 1 0 71 (AB Tryz.f37 0) Nz Nw v := by
 rintro ⟨a0, a1, a2, a3, ⟨⟩⟩
 kernel_rfl
theorem AC4 : AD (AB Tryz.f37 0) 1 = [] := by kernel_rfl
theorem AC7 : Aa Tryz.prog 0 (.loop (AB Tryz.f37 0)) (Cu.loop 0) := AX D9 (SA) (AA AC4 trivial)
theorem Ym : ∀ v, Gx v = AN Tryz.prog F5 Cu Tryz.f37 Jx Jw Jv v := by
 rintro ⟨a0, a1, ⟨⟩⟩
 kernel_rfl
theorem AG7 : AD (AS Tryz.f37) 0 = [(0, AB Tryz.f37 0), (1, AB Tryz.f37 1)] := by kernel_rfl
theorem Wf : AO Tryz.prog 37 (AF 2 Jx Jw Jv Hq) := AI D9 Tryz.func37 (by kernel_rfl) (by kernel_rfl) rfl (fun v => (N0 v).trans (Ym v)) (AA AG7 ⟨AC7, AC6, trivial⟩)
def FA : Env := F5.ext 37 true true (AF 2 Jx Jw Jv Hq)
theorem D8 : AZ Tryz.prog FA := Env.Ad D9 Wf (fun _ => AJ rfl rfl) (fun _ => AH rfl rfl)
abbrev Cj : Hints := { loop := fun n => match n with | 0 => Ab 0 153 NH ND Bp | 1 => Ab 0 153 NG NC CB | 2 => Ab 0 153 NF NB Bo | _ => fun _ _ _ => none, fp := fun n => match n with | 12 => [[0], [], [], [2], [2], [2], [], [], [2], [2], [2], [], []] | 21 => [[], [], [], [], [], [], [4], [4], [], [], [4], [4], [4], [5], [4], [5]] | 27 => [[], [0], [0], [0], [], [], [4], [4], [4], [], [], [4], [4], [4], [], [], [], [], [], []] | _ => [] }
theorem Rz : ∀ v, Bo v = roundOf Tryz.prog FA Cj 3 0 153 (AB Tryz.f5 2) NF NB v := by
 rintro ⟨a0, a1, a2, a3, a4, a5, a6, ⟨⟩⟩
 kernel_rfl
theorem ABS : AD (AB Tryz.f5 2) 3 = [] := by kernel_rfl
theorem ABV : Aa Tryz.prog 0 (.loop (AB Tryz.f5 2)) (Cj.loop 2) := AX D8 (Rz) (AA ABS trivial)
theorem R0 : ∀ v, CB v = roundOf Tryz.prog FA Cj 2 0 153 (AB Tryz.f5 1) NG NC v := by
 rintro ⟨a0, a1, a2, a3, a4, a5, a6, ⟨⟩⟩
 kernel_rfl
theorem ABT : AD (AB Tryz.f5 1) 2 = [] := by kernel_rfl
theorem ABW : Aa Tryz.prog 0 (.loop (AB Tryz.f5 1)) (Cj.loop 1) := AX D8 (R0) (AA ABT trivial)
theorem R1 : ∀ v, Bp v = roundOf Tryz.prog FA Cj 1 0 153 (AB Tryz.f5 0) NH ND v := by
 rintro ⟨a0, a1, a2, a3, a4, a5, ⟨⟩⟩
 kernel_rfl
theorem ABU : AD (AB Tryz.f5 0) 1 = [] := by kernel_rfl
theorem ABX : Aa Tryz.prog 0 (.loop (AB Tryz.f5 0)) (Cj.loop 0) := AX D8 (R1) (AA ABU trivial)
theorem YI : ∀ v, Gq v = AN Tryz.prog FA Cj Tryz.f5 JS JR JQ v := by
 rintro ⟨a0, a1, ⟨⟩⟩
 kernel_rfl
theorem AFN : AD (AS Tryz.f5) 0 = [(0, AB Tryz.f5 0), (1, AB Tryz.f5 1), (2, AB Tryz.f5 2)] := by kernel_rfl
theorem Tj : AO Tryz.prog 5 (AF 2 JS JR JQ Fm) := AI D8 Tryz.func5 (by kernel_rfl) (by kernel_rfl) rfl (fun v => (NI v).trans (YI v)) (AA AFN ⟨ABX, ABW, ABV, trivial⟩)
end
end Go.Pev
end
section

end
