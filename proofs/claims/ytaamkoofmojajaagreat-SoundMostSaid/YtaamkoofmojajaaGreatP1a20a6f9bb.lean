/- A part of the proofs of this seat: PevCall4 PevTop PevClone G24M1 G24M2 G24M3 G24M4 G24M5 G24M Pln PlnB T18a T18b T18c PlnM. -/
import Derived.Test.YtaamkoofmojajaaGreatPadaddb933b
import Derived.KernelRfl
import Derived.Lib.SliceRun
import Derived.IntWalk
import Derived.Sort.AssemblyPlain
set_option linter.unusedVariables false
set_option linter.unusedSimpArgs false
set_option linter.unusedSectionVars false
section
namespace Go.Pev
open Go.RowKit
theorem KN {P : Program} {g : FuncId} {fn : Func} (hf : P.funcs[g]? = some fn) (hb : fn.body.isSome = true) (hn : (fn.name == "runtime.NumGoroutine") = false) : PD P g := by
 intro args w
 obtain ⟨c, hc⟩ := Option.isSome_iff_exists.1 hb
 have hn' : ¬ fn.name = "runtime.NumGoroutine" := by simpa using hn
 simp [callFunc, hf, hn', hc]
theorem AEJ {P : Program} {np : Nat} {h : Hints} : ∀ (c : Code) (n : Nat), loops c = 0 → DC P np h c n := by
 intro c
 induction c with
 | seq a b iha ihb => intro n hl; simp only [loops] at hl; exact ⟨iha n (by omega), ihb _ (by omega)⟩
 | cond c a b iha ihb => intro n hl; simp only [loops] at hl; exact ⟨iha n (by omega), ihb _ (by omega)⟩
 | block id c ih => intro n hl; simp only [loops] at hl; exact ih n hl
 | loop c ih => intro n hl; simp only [loops] at hl; omega
 | _ => intro n _; trivial
section
variable {P : Program} {E : Env} {h : Hints} {g : FuncId} {fn : Func} {c : Code}
theorem AMY {w : World} {F : Nat → Prop} {m : Mp} {H : List Ob} {args : List AV} {vals : List Value} (hr : Ae w F m H args vals) (n : Nat) (t : Nat) :
  Rep w F m H ((args ++ List.replicate n AV.junk).getD t .junk) ((vals.toArray ++ Array.replicate n undef).getD t undef) := by
 have hl := Ax hr
 have e : (vals.toArray ++ Array.replicate n undef).getD t undef = (vals ++ List.replicate n undef).getD t undef := by
  rw [Array.getD_eq_getD_getElem?, List.getD_eq_getElem?_getD, ← Array.getElem?_toList]
  simp
 rw [e, List.getD_eq_getElem?_getD, List.getD_eq_getElem?_getD]
 rcases Nat.lt_or_ge t args.length with ht | ht
 ·rw [List.getElem?_append_left ht, List.getElem?_append_left (by omega)]
  obtain ⟨v, hv, hrv⟩ := CT hr (i := t) (c := args[t]) (List.getElem?_eq_getElem ht)
  rw [hv, List.getElem?_eq_getElem ht]
  exact hrv
 ·rw [List.getElem?_append_right ht, List.getElem?_replicate]
  split <;> (unfold Rep; trivial)
theorem AGv (hE : ∀ g, AO P g (E.spec g)) (hL : HD E) (hf : P.funcs[g]? = some fn) (hb : fn.body = some c) (hc : PD P g) (hl : loops c = 0) :
  AO P g (Ct P E h fn) := by
 intro R args H fz slot k r hk
 simp only [Ct, hb] at hk
 split at hk
 ·cases hk
 ·rename_i hle
  simp only [decide_eq_true_eq] at hle
  obtain ⟨e, st', h1, h2, h3⟩ := L9 hE hL (np := H.length) c 0 (AEJ c 0 hl) R _ _ r hk
  have key : ∃ vs, CV P st' fn.results.toList = some vs ∧ k (single vs) { heap := some (st'.heap, st'.frz) } = some r ∧ (e = .normal ∨ e = .ret) := by
   cases e with
   | normal =>
    simp only at h1
    split at h1
    ·rename_i vs hvs; exact ⟨vs, hvs, h1, .inl rfl⟩
    ·cases h1
   | ret =>
    simp only at h1
    split at h1
    ·rename_i vs hvs; exact ⟨vs, hvs, h1, .inr rfl⟩
    ·cases h1
   | _ => simp at h1
  obtain ⟨vs, hvs, h4, he⟩ := key
  refine ⟨_, _, h4, fun R' k' => ?_, hc, fun w F m vals hi hr => ?_⟩
  ·simp only [Ct, hb, hle, decide_true]
   refine (h2 R' _).trans ?_
   rcases he with rfl | rfl <;> simp only [hvs]
  ·have hlv := Ax hr
   refine calls_of_wp hf hb ?_
   have hsi : SI w F m { tmps := args ++ List.replicate (fn.ntmps - args.length) .junk, heap := H, frz := fz } { tmps := vals.toArray ++ Array.replicate (fn.ntmps - vals.toArray.size) undef, defers := [] } := by
    refine ⟨fun t => ?_, ?_, hi, rfl⟩
    ·have := AMY hr (fn.ntmps - args.length) t
     simp only [List.size_toArray, hlv]
     exact this
    ·simp [hlv]
   refine h3 w F m _ _ hsi fun a' w' F' m' s1 x1 => ?_
   obtain ⟨us, r1, r2⟩ := VZ s1 hvs
   have hgo : Ay w F m H fz w' F' m' st'.heap st'.frz := ⟨⟨x1.os, x1.tape, x1.output, x1.size, x1.keep, x1.sub, x1.bnd, x1.own, fun i o ho hf => x1.comp i o (A0 ho) ho hf⟩, s1.heap⟩
   have hpost : a'.defers = [] ∧ ∃ v, (results fn a'.tmps).run P w' = .ok v w' ∧ (fun (en : Ending) (w' : World) => ∃ u, en = .returned u ∧ ∃ F' m', Ay w F m H fz w' F' m' (DZ { heap := some (st'.heap, st'.frz) } H) (Iy { heap := some (st'.heap, st'.frz) } fz) ∧ Rep w' F' m' (DZ { heap := some (st'.heap, st'.frz) } H) (single vs) u) (.returned v) w' :=
    ⟨s1.defers, _, r1, _, rfl, F', m', hgo, ZZ r2⟩
   rcases he with rfl | rfl <;> exact hpost
theorem AAa {w : World} {F : Nat → Prop} {m : Mp} {H : List Ob} {fz : List Bool} {bs : List Bnd} {m' : Mp} {E : St} {val : Nat → Value} (h : Inv w F m H fz bs m' E val) {j : Nat} {o : Ob} (hj : E.heap[j]? = some o) : alive o := by
 have hlt := A0 hj
 rw [h.lenH] at hlt
 have hx : bs[j]? = some bs[j] := List.getElem?_eq_getElem hlt
 have hb := h.ob j _ hx
 cases hc : bs[j] with
 | none => rw [hc] at hb; simp only [BP] at hb; obtain ⟨_, T, e, e2, _⟩ := hb; rw [hj] at e2; cases e2; trivial
 | whole id =>
  rw [hc] at hb; simp only [BP] at hb
  rcases hb.2 with ⟨T, t, xs, _, a2, _⟩ | ⟨k, v, es, _, a2⟩ | ⟨cs, cs', b, c, vs, T, _, a2, _⟩ <;> (rw [hj] at a2; cases a2; trivial)
 | cut id => rw [hc] at hb; simp only [BP] at hb; obtain ⟨T, t, xs, n, _, _, a3, _⟩ := hb; rw [hj] at a3; cases a3; trivial
theorem AHT {np : Nat} {outs : AE} {rs : List RS} {st : St} {y : B9 (leaves outs)} (h : finish np P fn outs rs st = some y) :
  ∃ vs tm bs fr, CV P st fn.results.toList = some vs ∧ Ey rs vs = some tm ∧ dec tm st.heap outs st.frz [] = some (y, bs, fr) ∧ pins np 0 bs = true := by
 unfold finish at h
 split at h
 ·rename_i vs hvs
  split at h
  ·rename_i tm htm
   split at h
   ·rename_i y' bs fr hd
    split at h
    ·rename_i hp
     simp only [Option.some.injEq] at h; subst h
     exact ⟨vs, tm, bs, fr, hvs, htm, hd, hp⟩
    ·cases h
   ·cases h
  ·cases h
 ·cases h
theorem APi (hE : ∀ g, AO P g (E.spec g)) (hL : HD E) (hf : P.funcs[g]? = some fn) (hb : fn.body = some c) (hc : PD P g)
  {na : Nat} (hna : na ≤ fn.ntmps) {its outs : AE} {rs : List RS} {f : B9 (leaves its) → Option (B9 (leaves outs))} (hfun : ∀ x, f x = AN P E h fn its outs rs x) (hl : DC P (CZ its) h c 0) :
  AO P g (AF na its outs rs f) := by
 intro R args H fz slot k r hk
 simp only [AF] at hk
 split at hk
 ·cases hk
 ·rename_i x bs fr hdec
  split at hk
  ·cases hk
  ·rename_i hchk
   simp only [Bool.and_eq_true, decide_eq_true_eq] at hchk
   obtain ⟨⟨huncut, hbl⟩, hal⟩ := hchk
   split at hk
   ·cases hk
   ·rename_i y hy
    have key : ∃ e, k (single (Es rs (LJ (Bm (CZ outs) bs slot) (encode (cellsOf rs) outs y).tmps))) e = some r ∧ e.heap = none ∧ e.objs = (Bm (CZ outs) bs slot).zip ((encode (cellsOf rs) outs y).heap.map (FU (Bm (CZ outs) bs slot))) ∧
      (∀ R' (k' : AV → Eff → Option R'), Mk R' bs fr rs (encode (cellsOf rs) outs y) (Bm (CZ outs) bs slot) H fz k' = k' (single (Es rs (LJ (Bm (CZ outs) bs slot) (encode (cellsOf rs) outs y).tmps))) e) ∧
      EC H (Af e.frz fz) (Bm (CZ outs) bs slot) bs = true ∧ HQ (Bm (CZ outs) bs slot) = true ∧
      ((e.frz = [] ∧ LX (encode (cellsOf rs) outs y).tmps = true ∧ (encode (cellsOf rs) outs y).heap.all MW = true) ∨ e.frz = fr) := by
     unfold Mk at hk
     split at hk
     ·rename_i hflat
      split at hk
      ·rename_i hok
       simp only [Bool.and_eq_true] at hok hflat
       refine ⟨_, hk, rfl, rfl, fun R' k' => by simp only [Mk, hflat.1, hflat.2, hok.1, hok.2, Bool.and_self], hok.1, hok.2, .inl ⟨rfl, hflat.1, hflat.2⟩⟩
      ·cases hk
     ·rename_i hflat
      split at hk
      ·rename_i hok
       simp only [Bool.and_eq_true] at hok
       refine ⟨_, hk, rfl, rfl, fun R' k' => by simp only [Mk, hflat, hok.1, hok.2, Bool.and_self], hok.1, hok.2, .inr rfl⟩
      ·cases hk
    obtain ⟨e, h4, he1, he2, h5, hok, hnd, hfl⟩ := key
    refine ⟨_, e, h4, fun R' k' => ?_, hc, fun w F m vals hi hr => ?_⟩
    ·simp only [AF, hdec, huncut, hbl, hal, hy, decide_true, Bool.and_self]
     exact h5 R' k'
    ·have hlv := Ax hr
     rw [hfun x] at hy
     unfold AN at hy
     rw [hb] at hy
     simp only at hy
     obtain ⟨ex, st', g1, _, g3⟩ := L9 hE hL c 0 hl _ _ _ _ hy
     have hfin : finish (CZ its) P fn outs rs st' = some y ∧ (ex = .normal ∨ ex = .ret) := by
      cases ex with
      | normal => exact ⟨g1, .inl rfl⟩
      | ret => exact ⟨g1, .inr rfl⟩
      | _ => simp at g1
     obtain ⟨hfin, hex⟩ := hfin
     obtain ⟨vs, tm, bs', fr', hvs, htm, hd', hp⟩ := AHT hfin
     refine calls_of_wp hf hb ?_
     obtain ⟨F2, m2, gA, invA, _⟩ := ALp (val := fun t => (vals.toArray ++ Array.replicate (fn.ntmps - vals.toArray.size) undef).getD t undef) its fz [] F (fun _ => none) (blank fn.ntmps) x bs fr hi
      (fun t v ht => by
       have := AMY hr (fn.ntmps - vals.toArray.size) t
       rw [List.getD_eq_getElem?_getD, List.getElem?_append_left (DS ht), ht] at this
       exact this) (Inv.blank fn.ntmps) hdec
     have hsi : SI w F2 m2 (encode fn.ntmps its x) { tmps := vals.toArray ++ Array.replicate (fn.ntmps - vals.toArray.size) undef, defers := [] } := by
      refine ⟨invA.tmps, ?_, invA.hi gA.2, rfl⟩
      rw [KC]
      simp [hlv]
      omega
     refine g3 w F2 m2 _ _ hsi fun a' w' F' m' s1 x1 => ?_
     obtain ⟨us, r1, r2⟩ := VZ s1 hvs
     obtain ⟨q1, q2, q3⟩ := AJv htm r2
     obtain ⟨F3, m3, gC, invC, _⟩ := ALp (val := fun t => (G7 rs us).getD t undef) outs st'.frz [] F' (fun _ => none) (blank (cellsOf rs)) y bs' fr' s1.heap
      (fun t v ht => by
       obtain ⟨u, hu, hru⟩ := CT q1 ht
       rw [List.getD_eq_getElem?_getD, hu]
       exact hru) (Inv.blank (cellsOf rs)) hd'
     have hnb : ∀ j id, bs[j]? = some (.whole id) → j < CZ its := fun j id hj => by rw [← hbl]; exact DS hj
     have srcA : ∀ {j b c}, owned (encode fn.ntmps its x).heap (encode fn.ntmps its x).frz j → m2 j = some (b, c) → ∃ id, bs[j]? = some (.whole id) ∧ owned H (Af fr fz) id ∧ m id = some (b, c) := by
      intro j b c ho hm
      obtain ⟨y, id, k1, k2, k3, k4⟩ := invA.src ho hm
      rw [List.all_eq_true] at huncut
      have := huncut y (List.mem_of_getElem? k1)
      cases y with
      | none => simp [Bnd.id?] at k2
      | whole i => simp only [Bnd.id?, Option.some.injEq] at k2; subst k2; exact ⟨_, k1, k3, k4⟩
      | cut i => simp [Bnd.AWh] at this
     have hpin : ∀ j id, bs[j]? = some (.whole id) → owned H (Af fr fz) id ∧ ∃ o o1, H[id]? = some o ∧ alive o ∧ (encode (cellsOf rs) outs y).heap[j]? = some o1 ∧ sameShape o o1 ∧ m3 j = m id := by
      intro j id hj
      have hA := invA.ob j _ hj
      simp only [BP] at hA
      obtain ⟨eA, hA⟩ := hA
      have hjn := hnb j id hj
      have hC := invC.ob j _ (by have := AGC _ 0 bs' hp j hjn; rw [Nat.zero_add] at this; exact this)
      simp only [BP] at hC
      obtain ⟨eC, hC⟩ := hC
      have start : ∃ o o0, H[id]? = some o ∧ alive o ∧ (encode fn.ntmps its x).heap[j]? = some o0 ∧ sameShape o o0 ∧ alive o0 ∧ owned H (Af fr fz) id := by
       rcases hA with ⟨T, t, xs, a1, a2, a3⟩ | ⟨k, v, es, a1, a2⟩ | ⟨cs, cs', b, cc, vs, T, a1, a2, _⟩
       ·exact ⟨_, _, a1, trivial, a2, ⟨rfl, rfl⟩, trivial, WG a1 trivial a3⟩
       ·exact ⟨_, _, a1, trivial, a2, trivial, trivial, by unfold owned; rw [a1]; trivial⟩
       ·exact ⟨_, _, a1, trivial, a2, trivial, trivial, by unfold owned; rw [a1]; trivial⟩
      obtain ⟨o, o0, s1, s2, s3, s4, s5, s6⟩ := start
      have mid := x1.comp j o0 hjn s3 (AIB s5).1
      have fin : ∃ o2 o1, st'.heap[j]? = some o2 ∧ alive o2 ∧ (encode (cellsOf rs) outs y).heap[j]? = some o1 ∧ sameShape o2 o1 := by
       rcases hC with ⟨T, t, xs, a1, a2, a3⟩ | ⟨k, v, es, a1, a2⟩ | ⟨cs, cs', b, cc, vs, T, a1, a2, _⟩
       ·exact ⟨_, _, a1, trivial, a2, ⟨rfl, rfl⟩⟩
       ·exact ⟨_, _, a1, trivial, a2, trivial⟩
       ·exact ⟨_, _, a1, trivial, a2, trivial⟩
      obtain ⟨o2, o1, t1, t2, t3, t4⟩ := fin
      rcases mid with md | ⟨_, o2', md1, md2, md3⟩
      ·rw [t1] at md; cases md; exact t2.elim
      ·rw [t1] at md1; cases md1
       exact ⟨s6, o, o1, s1, s2, t3, (s4.trans md2).trans t4, by rw [eC, md3, eA]⟩
     have hiC1 := invC.hi gC.2
     have hblk : ∀ j b cc, owned (encode (cellsOf rs) outs y).heap (encode (cellsOf rs) outs y).frz j → m3 j = some (b, cc) → (∃ id c', bs[j]? = some (.whole id) ∧ m id = some (b, c')) ∨ w.heap.size ≤ b := by
      intro j b cc ho hm
      obtain ⟨_, i', k1, k2, k3, k4⟩ := invC.src ho hm
      rcases x1.own i' b cc (C6 k3) k4 with ⟨i, c0, l1, l2⟩ | h
      ·left
       obtain ⟨id, n1, n2, n3⟩ := srcA l1 l2
       obtain ⟨_, o, o1, p1, p2, p3, p4, p5⟩ := hpin i id n1
       have hoi : owned (encode (cellsOf rs) outs y).heap (encode (cellsOf rs) outs y).frz i := WG p3 (AAa invC p3) (invC.frz i)
       by_cases hij : j = i
       ·subst hij; exact ⟨id, c0, n1, n3⟩
       ·exact absurd rfl (hiC1.sep j i b cc b c0 ho hoi hij hm (by rw [p5]; exact n3))
      ·exact .inr h
     have hkeep : ∀ b, b < w.heap.size → (∀ (j id : Nat) (c : Nat), bs[j]? = some (.whole id) → m id ≠ some (b, c)) → w'.heap[b]? = w.heap[b]? := by
      intro b hb hn
      refine x1.keep b hb fun i cc ho hm => ?_
      obtain ⟨id, n1, _, n3⟩ := srcA ho hm
      exact hn i id cc n1 n3
     have hbnd : ∀ b, F3 b → F2 b ∨ (∃ (j id c : Nat), bs[j]? = some (.whole id) ∧ m id = some (b, c)) ∨ w.heap.size ≤ b := by
      have hx : ∀ {i b cc}, owned (encode fn.ntmps its x).heap (encode fn.ntmps its x).frz i → m2 i = some (b, cc) → ∃ (j id c : Nat), bs[j]? = some (.whole id) ∧ m id = some (b, c) := by
       intro i b cc ho hm
       obtain ⟨id, n1, _, n3⟩ := srcA ho hm
       exact ⟨i, id, cc, n1, n3⟩
      intro b hb
      rcases gC.1.bnd b hb with h | ⟨i, cc, ho, hm⟩ | h
      ·rcases x1.bnd b h with h | ⟨i, cc, ho, hm⟩ | h
       ·exact .inl h
       ·exact .inr (.inl (hx ho hm))
       ·exact .inr (.inr h)
      ·rcases x1.own i b cc ho hm with ⟨i', c0, ho, hm⟩ | h
       ·exact .inr (.inl (hx ho hm))
       ·exact .inr (.inr h)
      ·exact .inr (.inr (Nat.le_trans x1.size h))
     have hidl : (Bm (CZ outs) bs slot).length = (encode (cellsOf rs) outs y).heap.length := by
      rw [AQD]; unfold encode; rw [AUE]; simp [blank]
     obtain ⟨FR, hFR, hRR⟩ : ∃ FR, ((FR = F ∧ Af e.frz fz = fz ∧ (encode (cellsOf rs) outs y).heap.all MW = true) ∨ (FR = F3 ∧ Af e.frz fz = Af fr fz)) ∧ Ae w' FR m3 (encode (cellsOf rs) outs y).heap (encode (cellsOf rs) outs y).tmps (G7 rs us) := by
      have hrt : Ae w' F3 m3 (encode (cellsOf rs) outs y).heap (encode (cellsOf rs) outs y).tmps (G7 rs us) := by
       refine D6 (by rw [KC, q2]) fun i a u ha hu => ?_
       have := invC.tmps i
       rw [List.getD_eq_getElem?_getD] at this
       have ha' : (enc outs y (blank (cellsOf rs))).tmps[i]? = some a := ha
       rw [ha', List.getD_eq_getElem?_getD, hu] at this
       exact this
      rcases hfl with ⟨f1, f2, f3⟩ | f1
      ·exact ⟨F, .inl ⟨rfl, by rw [f1]; rfl, f3⟩, Ae.flat _ f2 hrt⟩
      ·exact ⟨F3, .inr ⟨rfl, by rw [f1]⟩, hrt⟩
     obtain ⟨hgo, hmv⟩ := AQs (ids := Bm (CZ outs) bs slot) hi gA hpin hblk x1.os x1.tape x1.output x1.size hkeep (fun b h => gC.1.sub b (x1.sub b h)) hbnd hiC1 (fun j o hj => AAa invC hj) invC.frz hidl hok hnd hFR
     have hH : DZ e H = BE ((Bm (CZ outs) bs slot).zip ((encode (cellsOf rs) outs y).heap.map (FU (Bm (CZ outs) bs slot)))) H := by rw [Em he1, he2]
     have hZ : Iy e fz = Af e.frz fz := Fy he1 fz
     have hpost : a'.defers = [] ∧ ∃ v, (results fn a'.tmps).run P w' = .ok v w' ∧ (fun (en : Ending) (w' : World) => ∃ u, en = .returned u ∧ ∃ F' m', Ay w F m H fz w' F' m' (DZ e H) (Iy e fz) ∧ Rep w' F' m' (DZ e H) (single (Es rs (LJ (Bm (CZ outs) bs slot) (encode (cellsOf rs) outs y).tmps))) u) (.returned v) w' := by
      refine ⟨s1.defers, _, r1, _, rfl, FR, mOf (Bm (CZ outs) bs slot) m3 m, ?_, ?_⟩
      ·rw [hH, hZ]; exact hgo
      ·rw [hH]
       exact ZZ (q3 _ _ _ _ _ (Ae.ren hmv _ hRR))
     rcases hex with rfl | rfl <;> exact hpost
end
end Go.Pev
end
section
namespace Go.Pev
open Go.RowKit
def Ia : Code → Nat → Option Code
 | .seq a b, n => match Ia a n with
  | some c => some c
  | none => Ia b (n - loops a)
 | .cond _ a b, n => match Ia a n with
  | some c => some c
  | none => Ia b (n - loops a)
 | .block _ c, n => Ia c n
 | .loop c, n => match n with
  | 0 => some c
  | n + 1 => Ia c n
 | _, _ => none
def AS (f : Func) : Code := match f.body with
 | some c => c
 | none => .skip
def AB (f : Func) (n : Nat) : Code := (Ia (AS f) n).getD .skip
def AD : Code → Nat → List (Nat × Code)
 | .seq a b, n => AD a n ++ AD b (n + loops a)
 | .cond _ a b, n => AD a n ++ AD b (n + loops a)
 | .block _ c, n => AD c n
 | .loop c, n => [(n, c)]
 | _, _ => []
def AAm (P : Program) (np : Nat) (h : Hints) : List (Nat × Code) → Prop
 | [] => True
 | p :: l => Aa P np (.loop p.2) (h.loop p.1) ∧ AAm P np h l
theorem AAl {P : Program} {np : Nat} {h : Hints} : ∀ {a b : List (Nat × Code)}, AAm P np h (a ++ b) → AAm P np h a ∧ AAm P np h b := by
 intro a
 induction a with
 | nil => exact fun h => ⟨trivial, h⟩
 | cons p a ih => intro b h; exact ⟨⟨h.1, (ih h.2).1⟩, (ih h.2).2⟩
theorem AIK {P : Program} {np : Nat} {h : Hints} : ∀ (c : Code) (n : Nat), AAm P np h (AD c n) → DC P np h c n := by
 intro c
 induction c with
 | seq a b iha ihb => intro n hl; have := AAl hl; exact ⟨iha n this.1, ihb _ this.2⟩
 | cond c a b iha ihb => intro n hl; have := AAl hl; exact ⟨iha n this.1, ihb _ this.2⟩
 | block id c ih => intro n hl; exact ih n hl
 | loop c ih => intro n hl; exact hl.1
 | _ => intro n _; trivial
theorem AA {P : Program} {np : Nat} {h : Hints} {c : Code} {n : Nat} {l : List (Nat × Code)} (e : AD c n = l) (a : AAm P np h l) : DC P np h c n := AIK c n (by rw [e]; exact a)
def AZ (P : Program) (E : Env) : Prop := (∀ g, AO P g (E.spec g)) ∧ HD E
def Env.none : Env := { spec := fun _ _ _ _ _ _ _ => Option.none, loc := fun _ => false, loc2 := fun _ => true }
theorem Env.ANG {P : Program} : AZ P Env.none := ⟨fun g R args H fz slot k r h => by simp [Env.none] at h, fun g h => by simp [Env.none] at h, fun g _ R args H H' fz fz' slot k S _ _ _ => rfl⟩
def Env.ext (E : Env) (g : FuncId) (loc loc2 : Bool) (s : Spec) : Env where
 spec x := match Nat.beq x g with
  | true => s
  | false => E.spec x
 loc x := match Nat.beq x g with
  | true => loc
  | false => E.loc x
 loc2 x := match Nat.beq x g with
  | true => loc2
  | false => E.loc2 x
theorem Env.Ad {P : Program} {E : Env} {g : FuncId} {loc loc2 : Bool} {s : Spec} (h : AZ P E) (hs : AO P g s) (hl : loc = true → Fz s) (hl2 : loc2 = true → Oj s) : AZ P (E.ext g loc loc2 s) := by
 refine ⟨?_, ?_, ?_⟩
 ·intro x
  simp only [Env.ext]
  cases hx : Nat.beq x g with
  | true => have := Nat.eq_of_beq_eq_true hx; subst this; exact hs
  | false => exact h.1 x
 ·intro x hx
  simp only [Env.ext] at hx ⊢
  cases hb : Nat.beq x g with
  | true => rw [hb] at hx; exact hl hx
  | false => rw [hb] at hx; exact h.2.1 x hx
 ·intro x hx
  simp only [Env.ext] at hx ⊢
  cases hb : Nat.beq x g with
  | true => rw [hb] at hx; exact hl2 hx
  | false => rw [hb] at hx; exact h.2.2 x hx
section
variable {P : Program} {E : Env} {h : Hints} {g : FuncId} {fn : Func}
theorem ANv (hb : fn.body.isSome = true) : fn.body = some (AS fn) := by
 unfold AS
 cases h : fn.body with
 | none => rw [h] at hb; cases hb
 | some c => rfl
theorem AI (hE : AZ P E) (hf : P.funcs[g]? = some fn) (hb : fn.body.isSome = true) (hn : (fn.name == "runtime.NumGoroutine") = false)
  {na : Nat} (hna : (Nat.ble na fn.ntmps) = true) {its outs : AE} {rs : List RS} {f : B9 (leaves its) → Option (B9 (leaves outs))} (hfun : ∀ x, f x = AN P E h fn its outs rs x) (hl : DC P (CZ its) h (AS fn) 0) :
  AO P g (AF na its outs rs f) :=
 APi hE.1 hE.2 hf (ANv hb) (KN hf hb hn) (Nat.le_of_ble_eq_true hna) hfun hl
theorem Cv (hE : AZ P E) (hf : P.funcs[g]? = some fn) (hb : fn.body.isSome = true) (hn : (fn.name == "runtime.NumGoroutine") = false) (hl : loops (AS fn) = 0) : AO P g (Ct P E h fn) :=
 AGv hE.1 hE.2 hf (ANv hb) (KN hf hb hn) hl
theorem AX {h' : Hints} (hE : AZ P E) {np nt n : Nat} {body : Code} {its : AE} {os : At} {stp : B9 (leaves its) → Option (B9 (leaves its) ⊕ Y3 os)}
  (hstep : ∀ v, stp v = roundOf P E h' n np nt body its os v) (hl : DC P np h' body n) : Aa P np (.loop body) (Ab np nt its os stp) := APw hE.1 hE.2 hstep hl
def AAS : AE → Bool
 | [] => true
 | (.tmp _, .dat _) :: r => AAS r
 | _ :: _ => false
theorem AQi {H H' : List Ob} {tm : List AV} (ha : ∀ id ∈ A8 tm, H[id]? = H'[id]?) : ∀ (its : AE) (fz fz' : List Bool), AAS its = true → dec tm H its fz [] = dec tm H' its fz' [] := by
 intro its
 induction its with
 | nil => intro fz fz' _; rfl
 | cons p r ih =>
  intro fz fz' hd
  obtain ⟨l, c⟩ := p
  cases l <;> cases c <;> simp only [AAS] at hd <;> try (cases hd; done)
  rename_i t ty
  simp only [dec, look]
  cases hv : tm[t]? with
  | none => rfl
  | some v =>
   have hsub : ∀ id ∈ Aq v, H[id]? = H'[id]? := fun id hid => ha id (by
    clear ih hd ha
    induction tm generalizing t with
    | nil => simp at hv
    | cons a tm iht =>
     cases t with
     | zero => simp at hv; subst hv; simp [A8, hid]
     | succ t => simp only [A8, List.mem_append]; exact .inr (iht t (by simpa using hv)))
   simp only
   rw [Bd ty v hsub]
   cases Gm H' ty v with
   | none => rfl
   | some q =>
    obtain ⟨x, f⟩ := q
    simp only
    have hfr : f.all (fresh? []) = true := by simp [fresh?]
    rw [hfr]
    simp only
    rw [ih (Af f fz) (Af f fz') hd]
theorem AQC : ∀ (n slot : Nat), Bm n [] slot = List.range' slot n := by
 intro n
 induction n with
 | zero => intro slot; rfl
 | succ n ih => intro slot; simp only [Bm, List.range'_succ]; rw [ih]
theorem RN {H H' : List Ob} {fz fz' : List Bool} : ∀ (ids : List Nat), (∀ i ∈ ids, A6 H fz i = A6 H' fz' i) → EC H fz ids [] = EC H' fz' ids [] := by
 intro ids
 induction ids with
 | nil => intro _; rfl
 | cons a ids ih =>
  intro h
  simp only [EC, List.tail_nil]
  rw [h a (by simp), ih fun i hi => h i (by simp [hi])]
theorem ALq {H : List Ob} {tm : List AV} : ∀ (its : AE) (fz : List Bool) (bs : List Bnd) (x : B9 (leaves its)) (bs' : List Bnd) (fr : List Nat), AAS its = true → dec tm H its fz bs = some (x, bs', fr) → bs' = bs := by
 intro its
 induction its with
 | nil => intro fz bs x bs' fr _ h; simp only [dec, Option.some.injEq] at h; cases h; rfl
 | cons p r ih =>
  intro fz bs x bs' fr hd h
  obtain ⟨l, c⟩ := p
  cases l <;> cases c <;> simp only [AAS] at hd <;> try (cases hd; done)
  simp only [dec] at h
  split at h
  ·split at h
   ·split at h
    ·split at h
     ·rename_i xs bs1 g hdd
      simp only [Option.some.injEq] at h
      cases h
      exact ih _ _ _ _ _ hd hdd
     ·cases h
    ·cases h
   ·cases h
  ·cases h
theorem AJ {na : Nat} {its outs : AE} {rs : List RS} {f : B9 (leaves its) → Option (B9 (leaves outs))} (hd : AAS its = true) (hn : Nat.ble (CZ outs) 4 = true) : Fz (AF na its outs rs f) := by
 intro R args H H' fz fz' slot k ha
 unfold AF
 rw [AQi ha.heap its fz fz' hd]
 split
 ·rfl
 ·rename_i x bs fr hdec
  have hbs := ALq its fz' [] x bs fr hd hdec
  subst hbs
  split
  ·rfl
  ·split
   ·rfl
   ·rename_i y hy
    have hfree : ∀ (g : List Nat) (i : Nat), i ∈ Bm (CZ outs) [] slot → A6 H (Af g fz) i = A6 H' (Af g fz') i := by
     intro g i hi
     rw [AQC, List.mem_range'_1] at hi
     have := Nat.le_of_ble_eq_true hn
     exact Dx ha hi.1 (by omega) g
    unfold Mk
    rw [show EC H fz (Bm (CZ outs) [] slot) [] = EC H' fz' (Bm (CZ outs) [] slot) [] from RN _ (hfree []), RN _ (hfree fr)]
end
end Go.Pev
end
section
namespace Go.Pev
open Go.RowKit
def Iv {α : Type} (xs : List α) : Option (List α) := match LY (AQ xs) with
 | true => some xs
 | false => none
def ADt [Lk] {α : Type} (xs : List α) : Option (List α) := Lk.f (Iv xs)
theorem AAT {α : Type} (xs : List α) : ADt xs = Iv xs := AK _
noncomputable def Fu (e : TypeId) (t : Ty) : Spec := fun R args H fz slot k =>
 match args with
 | [x] => match Gm H (.slice t) x with
  | some (xs, _) => match (ADt xs : Option (List t.den)) with
   | none => none
   | some y => (match A6 H fz slot with | true => k (.own slot) { objs := [(slot, .arr e t y)] } | false => none)
  | none => none
 | _ => none
def WH : Code → Nat → List Oper
 | .region id ops _, n => if id = n then ops.toList else []
 | .seq a b, n => WH a n ++ WH b n
 | .cond _ a b, n => WH a n ++ WH b n
 | .block _ c, n => WH c n
 | .loop c, n => WH c n
 | _, _ => []
def DE (fn : Func) (n i : Nat) : Oper := ((WH (AS fn) n)[i]?).getD default
structure YC (P : Program) (fn : Func) (T e : TypeId) (t : Ty) : Prop where
 body : fn.body = some (.seq (.region 0 #[DE fn 0 0] false) (.seq (.seq (.region 1 #[DE fn 1 0, DE fn 1 1] false) (.cond (.tmp 4) (.seq (.region 2 #[DE fn 2 0] false) .ret) .skip)) (.seq (.region 3 #[DE fn 3 0, DE fn 3 1, DE fn 3 2, DE fn 3 3] false) .ret)))
 nt : fn.ntmps = 8
 res : fn.results = #[.tmp 2]
 d : (DE fn 0 0).dst = some 2 ∧ (DE fn 1 0).dst = some 3 ∧ (DE fn 1 1).dst = some 4 ∧ (DE fn 2 0).dst = some 2 ∧ (DE fn 3 0).dst = some 5 ∧ (DE fn 3 1).dst = some 6 ∧ (DE fn 3 2).dst = some 7 ∧ (DE fn 3 3).dst = some 2
 g : (DE fn 0 0).guard = none ∧ (DE fn 1 0).guard = none ∧ (DE fn 1 1).guard = none ∧ (DE fn 2 0).guard = none ∧ (DE fn 3 0).guard = none ∧ (DE fn 3 1).guard = none ∧ (DE fn 3 2).guard = none ∧ (DE fn 3 3).guard = none
 o00 : (DE fn 0 0).op = .assign (.const (.slice none 0 0))
 o10 : (DE fn 1 0).op = .move (.tmp 0)
 o11 : (DE fn 1 1).op = .binOp .eql T (.tmp 3) (.const (.slice none 0 0)) T
 o20 : (DE fn 2 0).op = .assign (.const (.slice none 0 0))
 o30 : (DE fn 3 0).op = .buildSlice T 0 #[]
 o31 : (DE fn 3 1).op = .move (.tmp 0)
 o32 : (DE fn 3 2).op = .call { callee := .builtin .append, args := #[.tmp 5, .tmp 6], argTypes := #[T, T] }
 o33 : (DE fn 3 3).op = .assign (.tmp 7)
 sl : sliceAt P T = some (e, t)
 z : (zeroAt P e).isSome = true
 by1 : (P.info? e).map (fun i => decide (i.bytes ≤ 1024)) = some true
section
variable {P : Program} {g : FuncId}
theorem E4 {ops : Array Oper} {Q : Exit → Act → World → Prop} {i : Nat} {rest : List Nat} {a : Act} {w : World} {o : Oper} (ho : ops[i]? = some o) (hg : o.guard = none) (h : o.wp P a w (wpOps P ops Q rest) Q) : wpOps P ops Q (i :: rest) a w := by
 simp only [wpOps, ho]
 rw [if_pos (by simp [Region.wanted, hg])]
 exact .inl h
theorem E5 {o : Oper} {a : Act} {w w' : World} {next : Act → World → Prop} {Q : Exit → Act → World → Prop} {u : Value} (h : (execOp a.eval o).run P w = .ok (.value u) w') (hn : next (a.put o.dst u) w') : o.wp P a w next Q := by
 unfold Oper.wp; rw [h]; exact hn
variable {fn : Func} {T e : TypeId} {t : Ty}
theorem AAQ {P : Program} {w : World} {ρ : Operand → Value} {o : Oper} {x : Operand} (h : o.op = .move x) : (execOp ρ o).run P w = .ok (.value (ρ x)) w := by simp [execOp, h]
theorem KA {P : Program} {w : World} {ρ : Operand → Value} {o : Oper} {x : Operand} (h : o.op = .assign x) : (execOp ρ o).run P w = .ok (.value (ρ x)) w := by simp [execOp, h]
theorem AUN (hs : YC P fn T e t) (hf : P.funcs[g]? = some fn) (hn : (fn.name == "runtime.NumGoroutine") = false) : AO P g (Fu e t) := by
 intro R args H fz slot k r hk
 unfold Fu at hk
 split at hk
 ·rename_i x
  split at hk
  ·rename_i xs fr hx
   split at hk
   ·cases hk
   ·rename_i y hy
    split at hk
    ·rename_i hfree
     refine ⟨_, _, hk, fun R' k' => by simp only [Fu, hx, hy, hfree], KN hf (by rw [hs.body]; rfl) hn, fun w F m vals hi hr => ?_⟩
     rw [AAT] at hy
     unfold Iv at hy
     split at hy
     ·rename_i hfit
      simp only [Option.some.injEq] at hy; subst hy
      have hr0 := hr
      unfold Ae at hr
      obtain ⟨v, vs', rfl, hrv, hnil⟩ := hr
      unfold Ae at hnil; subst hnil
      obtain ⟨hu, hty0, hpos⟩ := CD hs.sl
      obtain ⟨zz, hzz⟩ := Option.isSome_iff_exists.1 hs.z
      obtain ⟨t', cs'⟩ := zz
      obtain ⟨hty', hcs', i, z, hi0, hz0, hok, hsz, hza⟩ := Bn hzz
      subst hcs'
      have : t' = t := by rw [hty0] at hty'; exact (Option.some.inj hty').symm
      subst this
      have hzs : z.cells.size = i.size := by
       have hzd := Bj (w := default) (F := fun _ => False) t' _ hok
       rw [hsz, ← Array.length_toList]; exact Dat.length t' hzd
      have hby' : i.bytes ≤ 1024 := by simpa [hi0] using hs.by1
      obtain ⟨A, c, rfl, q2, q3, news, q4, q5⟩ := El hi hx hrv
      have hfit' : xs.length ≤ 4294967296 := by
       have : (xs.length : Int) ≤ 4294967296 := (QO _).1 hfit
       omega
      refine calls_of_wp hf hs.body ?_
      obtain ⟨d0, d1, d2, d3, d4, d5, d6, d7⟩ := hs.d
      obtain ⟨g0, g1, g2, g3, g4, g5, g6, g7⟩ := hs.g
      have hres : ∀ (tm : Array Value) (w0 : World), (results fn tm).run P w0 = .ok (tm.getD 2 undef) w0 := fun tm w0 => by simp [results, hs.res]
      refine wp_seq (wp_region ?_)
      simp only [List.size_toArray, List.length_cons, List.length_nil, List.range_succ, List.range_zero, List.nil_append]
      refine E4 (by rfl) g0 (E5 (KA hs.o00) ?_)
      refine wp_seq (wp_seq (wp_region ?_))
      simp only [List.size_toArray, List.length_cons, List.length_nil, List.range_succ, List.range_zero, List.nil_append, List.cons_append]
      refine E4 (by rfl) g1 (E5 (AAQ hs.o10) ?_)
      refine E4 (by rfl) g2 (E5 (u := .bool A.isNone) (w' := w) (by simp [execOp, hs.o11, Act.eval, Act.put, d0, d1, hs.nt, eqGuard, Lib.run_eql_slice_nil _ _ _ _ _ _ _ _ hu]) ?_)
      cases A with
      | none =>
       have hxs : xs = [] := by
        cases xs with
        | nil => rfl
        | cons a b => exact absurd (q3 (by simp)) (by simp)
       subst hxs
       refine wp_cond_true (by simp [Act.eval, Act.put, d0, d1, d2, hs.nt]) ?_
       refine wp_seq (wp_region ?_)
       simp only [List.size_toArray, List.length_cons, List.length_nil, List.range_succ, List.range_zero, List.nil_append]
       refine E4 (by rfl) g3 (E5 (KA hs.o20) ?_)
       refine wp_ret ?_
       refine ⟨by simp [Act.put, d0, d1, d2, d3], _, hres _ _, ?_⟩
       obtain ⟨m', hg, hrep⟩ := D1 (w := w) hi hfree e hpos none
       refine ⟨_, rfl, F, m', hg, ?_⟩
       show Rep _ _ _ (H.set slot _) _ _
       simpa [Act.put, Act.eval, d0, d1, d2, d3, hs.nt] using hrep
      | some ad =>
       refine wp_cond_false (by simp [Act.eval, Act.put, d0, d1, d2, hs.nt]) ?_
       refine wp_skip ?_
       refine wp_seq (wp_region ?_)
       simp only [List.size_toArray, List.length_cons, List.length_nil, List.range_succ, List.range_zero, List.nil_append, List.cons_append]
       refine E4 (by rfl) g4 (E5 (u := .slice (some ⟨w.heap.size, 0, none⟩) 0 0) (w' := w.alloc (.cells #[] e)) (by
        have := Jj (P := P) (w := w) (len := 0) (parts := #[]) (us := #[]) hu hi0 hz0 hsz (by omega) (by simp [Instr.fill])
        simp [execOp, hs.o30, this]) ?_)
       refine E4 (by rfl) g5 (E5 (AAQ hs.o31) ?_)
       have hga := Ay.grow (w' := w.alloc (.cells #[] e)) hi rfl rfl rfl (by simp) (fun b hb => Below.heap_alloc w _ b hb)
       obtain ⟨v, w', m', hrun, hg, hrep⟩ := Fh (P := P) (T := T) (ty := (DE fn 3 2).type) hga.2 hfree hu hi0 hz0 hzs hsz hpos hby' hfit' (some ⟨w.heap.size, 0, none⟩) (A := some ad) (c := c) (ys := xs) (news := news) (fun _ => rfl)
        (BC (fun x _ cs hx => hx.mono (fun a ha => by simp [World.cell?, Below.heap_alloc w _ _ (hi.lt _ ha)]) (fun _ h => h) t') q4) (fun ad' h j u hu' => by
         have := q5 ad' h j u hu'
         exact Lib.cell?_alloc_some _ this)
       refine E4 (by rfl) g6 (E5 (u := v) (w' := w') (by
        simp [execOp, hs.o32, resolve, invoke, builtin, Act.eval, Act.put, d0, d1, d2, d4, d5, hs.nt, hrun]) ?_)
       refine E4 (by rfl) g7 (E5 (KA hs.o33) ?_)
       refine wp_ret ?_
       refine ⟨by simp [Act.put, d0, d1, d2, d4, d5, d6, d7], _, hres _ _, ?_⟩
       refine ⟨_, rfl, F, m', hga.trans hg, ?_⟩
       show Rep _ _ _ (H.set slot _) _ _
       simpa [Act.put, Act.eval, d0, d1, d2, d4, d5, d6, d7, hs.nt] using hrep
     ·cases hy
    ·cases hk
  ·cases hk
 ·cases hk
theorem JI (e : TypeId) (t : Ty) : Fz (Fu e t) := by
 intro R args H H' fz fz' slot k ha
 unfold Fu
 cases args with
 | nil => rfl
 | cons x r => cases r with
  | cons y r => rfl
  | nil =>
   simp only
   rw [Bd (.slice t) x fun id hid => ha.heap id (by simpa [A8] using hid)]
   have := Dx ha (s := slot) (Nat.le_refl _) (by omega) []
   simp only [Af] at this
   rw [this]
end
end Go.Pev
end
section
namespace Go.Pev
set_option maxRecDepth 100000
noncomputable section
attribute [local irreducible] LY Im MS LP ATa ATb ATd R6 YU UL YO Iv AU many IntKind.wrap AQ Ak AT BX Cz Eg KE AG CM DT imax Ac Ai
abbrev U0 : Ty := (.prod (.int .i64) (.prod (.int .i64) (.prod (.int .i64) (.prod .bool .unit))))
abbrev U1 := (Int × Int × Int × Bool × Unit)
abbrev U2 : Ty := (.int .i64)
abbrev U3 := (Int × Int × Unit)
abbrev U4 := (List Int)
abbrev U5 : Ty := (.slice U2)
abbrev U6 : Ty := (.prod U2 (.prod U2 .unit))
abbrev U7 := (List U4 × Int × Int × Int × Unit)
abbrev U8 := (Int × Unit)
abbrev U9 : Ty := (.prod U2 (.prod (.slice U5) .unit))
abbrev Ua := (Int × (List U4) × Unit)
abbrev Ub := (List U1 × Int × Int × Int × Unit)
abbrev Uc := (List U4 × Int × Int × Unit)
abbrev Ud : Ty := (.prod U2 (.prod (.slice U0) .unit))
abbrev Ue := (List U4 × Int × Int × Int × Int × Unit)
abbrev Uf := (Int × (List U1) × Unit)
abbrev Ug := (List U4 × Unit)
abbrev Uh := (Bool × Unit)
abbrev Ui := (List Int × Unit)
abbrev Uj := (List U1 × Int × Int × Int × Int × Unit)
abbrev Uk : Ty := (.slice U5)
abbrev Ul := (List U1 × Int × Int × Unit)
abbrev Um := (List U1 × Unit)
abbrev Un : Ty := (.slice U6)
abbrev Uo := (List U4 × Int × Int × Int × Int × Int × Unit)
abbrev Up := (Int × List U4 × List (Int × Int) × Int × List U4 × Int × Int × List Int × Int × Int × Bool × List Int × Bool × Bool × List Int × Int × List Int × Int × Bool × Int × List Int × Bool × Bool × List Int × Int × Int × Unit)
abbrev Uq := (List Int × Int × Int × Unit)
abbrev Ur : Ty := (.slice U0)
abbrev Us := (List Int × Int × Unit)
abbrev Ut := (Int × Int)
abbrev Uu := (Int × List U1 × List U3 × Int × Unit)
abbrev Uv := (Uf × Unit)
abbrev Uw := (List U3 × Unit)
abbrev Ux := (Int × List U3 × Unit)
abbrev Uy := (Int × List U3 × List Int × Int × Unit)
abbrev Uz := (Int × List U1 × Int × Int × Unit)
abbrev V0 := (Int × List U3 × List Int × List U3 × Int × Unit)
abbrev V1 := (Int × List U1 × List Ua × Int × Int × Unit)
abbrev V2 := (U7 ⊕ U7 ⊕ Unit)
abbrev V3 := (List U4 × Int × Unit)
abbrev V4 := (List Int × List U4 × Int × List U4 × Int × List U4 × List U4 × Int × Int × Unit)
abbrev V5 := (Int × List U4 × Int × Unit)
abbrev V6 := (Int × List U1 × List Ua × Int × Int × List U4 × Int × Int × Int × Int × Unit)
abbrev V7 := (Int × List U3 × List Int × Bool × Unit)
abbrev TJ : AE := [(.tmp 0, .di)]
abbrev TH : AE := [(.tmp 0, .dat .bool)]
abbrev TG : List RS := [.one]
def M4 [Lk] : U8 → Option (Uh) := fun (a0, _) =>
 match (ile 1 a0) with
 | true => some ((ile a0 64), ())
 | false => some (false, ())
def JM [Lk] := fun v => Lk.f (M4 v)
theorem Y6 v : JM v = M4 v := AK _
abbrev ARc : AE := [(.tmp 0, .di), (.tmp 1, .di)]
abbrev ARb : AE := [(.tmp 0, .dat .bool)]
abbrev ARa : List RS := [.one]
def AMZ [Lk] : U3 → Option (Uh) := fun (a0, a1, _) =>
 match JM (a0, ()) with
 | none => none
 | some (y0, _) => match y0 with
 | true => match (ile 0 a1) with
  | true => some ((ilt a1 a0), ())
  | false => some (false, ())
 | false => some (false, ())
def tin [Lk] := fun v => Lk.f (AMZ v)
theorem ARd v : tin v = AMZ v := AK _
abbrev AIj : AE := [(.tmp 0, .di), (.tmp 1, .di), (.tmp 2, .di)]
abbrev AIi : AE := [(.tmp 0, .di)]
abbrev AIh : List RS := [.one]
def ABJ [Lk] : (Int × Int × Int × Unit) → Option (U8) := fun (a0, a1, a2, _) =>
 match (ieq a1 a2) with
 | true => some ((-1 : Int), ())
 | false => match tin (a0, a1, ()) with
 | none => none
 | some (y0, _) => match (!y0) with
 | true => some ((-1 : Int), ())
 | false => match tin (a0, a2, ()) with
 | none => none
 | some (y1, _) => match (!y1) with
 | true => some ((-1 : Int), ())
 | false => some ((IntKind.wrap .i64 ((IntKind.wrap .i64 (a0 * (IntKind.wrap .i64 (a1 + 1)))) + a2)), ())
def AOR [Lk] := fun v => Lk.f (ABJ v)
theorem AMa v : AOR v = ABJ v := AK _
abbrev TE : AE := [(.tmp 0, .di), (.tmp 1, .di)]
abbrev TD : AE := [(.tmp 0, .di), (.tmp 1, .di), (.tmp 2, .dat .bool), (.tmp 3, .dat .bool)]
abbrev TC : List RS := [.one, .one, .one, .one]
def M3 [Lk] : U3 → Option ((Int × Int × Bool × Bool × Unit)) := fun (a0, a1, _) =>
 match JM (a0, ()) with
 | none => none
 | some (y0, _) => match (!y0) with
 | true => some (0, 0, false, false, ())
 | false => match (ilt a1 0) with
 | true => some (0, 0, false, false, ())
 | false => match (ile (IntKind.wrap .i64 (a0 * (IntKind.wrap .i64 (a0 + 1)))) a1) with
 | true => some (0, 0, false, false, ())
 | false => match (ilt a1 a0) with
 | true => some (a1, 0, false, true, ())
 | false => match quo? .i64 a1 a0 with
 | none => none
 | some x1 => match rem? a1 a0 with
 | none => none
 | some x2 => match (ieq (IntKind.wrap .i64 (x1 - 1)) x2) with
 | true => some (0, 0, false, false, ())
 | false => some ((IntKind.wrap .i64 (x1 - 1)), x2, true, true, ())
def TF [Lk] := fun v => Lk.f (M3 v)
theorem Y5 v : TF v = M3 v := AK _
abbrev ABE : AE := [(.tmp 0, .di)]
abbrev ABD : AE := [(.tmp 0, .di), (.tmp 1, .own 55 U5), (.tmp 2, .di)]
abbrev ABC : List RS := [.agg 2, .one]
abbrev AE2 : AE := [(.tmp 2, .box 2), (.cell 0 0, .di), (.cell 0 1, .nil U5), (.tmp 4, .box 2), (.cell 1 0, .di), (.cell 1 1, .own 55 U5), (.tmp 12, .di), (.tmp 13, .di)]
abbrev AE1 : At := [(.exit 0, [(.tmp 2, .box 2), (.cell 0 0, .di), (.cell 0 1, .nil U5), (.tmp 4, .box 2), (.cell 1 0, .di), (.cell 1 1, .own 55 U5)])]
def GB [Lk] : (Int × Int × List U4 × Int × Int × Unit) → Option ((Int × Int × List U4 × Int × Int × Unit) ⊕ (Int × Int × List U4 × Unit) ⊕ Unit) := fun (a0, a1, a2, a3, a4, _) =>
 match (ilt a4 a3) with
 | true => match (fits ((AQ a2) + (AQ ([([a4] : List (Int))] : List U4)))) with
  | true => some (.inl (a0, a1, (BX a2 ([([a4] : List (Int))] : List U4)), a3, (IntKind.wrap .i64 (a4 + 1)), ()))
  | false => none
 | false => some (.inr (.inl (a0, a1, a2, ())))
def SY [Lk] : U8 → Option (V5) := fun (a0, _) =>
 match JM (a0, ()) with
 | none => none
 | some (y0, _) => match (!y0) with
 | true => some (0, ([] : List U4), 1, ())
 | false => match AR GB many (0, a0, ([] : List U4), a0, 0, ()) with
 | none => none
 | some r => match r with
 | .inl (o1, o2, o3, _) => some (o2, o3, 0, ())
 | .inr _ => none
def AE4 [Lk] := fun v => Lk.f (SY v)
theorem AE3 v : AE4 v = SY v := AK _
abbrev Wp : AE := [(.tmp 0, .dat U5), (.tmp 1, .di)]
abbrev Wo : AE := [(.tmp 0, .di)]
abbrev Wn : List RS := [.one]
abbrev AAE : AE := [(.tmp 0, .dat U5), (.tmp 1, .di), (.tmp 7, .di), (.tmp 8, .di)]
abbrev AAD : At := [(.ret, [(.tmp 4, .di)]), (.exit 0, [])]
def EU [Lk] : (List Int × Int × Int × Int × Unit) → Option ((List Int × Int × Int × Int × Unit) ⊕ U8 ⊕ (Unit) ⊕ Unit) := fun (a0, a1, a2, a3, _) =>
 match (ilt a3 a2) with
 | true => match idx a0 a3 with
  | none => none
  | some x0 => match (ieq a1 x0) with
  | true => some (.inr (.inl (a3, ())))
  | false => some (.inl (a0, a1, a2, (IntKind.wrap .i64 (a3 + 1)), ()))
 | false => some (.inr (.inr (.inl ())))
def N2 [Lk] : Us → Option (U8) := fun (a0, a1, _) =>
 match AR EU many (a0, a1, (AQ a0), 0, ()) with
 | none => none
 | some r => match r with
 | .inl (o0, _) => some (o0, ())
 | .inr r => match r with
 | .inl _ => some ((-1 : Int), ())
 | .inr _ => none
def MR [Lk] := fun v => Lk.f (N2 v)
theorem AAF v : MR v = N2 v := AK _
abbrev KH : AE := [(.tmp 0, .dat U5), (.tmp 1, .di)]
abbrev KG : AE := [(.tmp 0, .dat .bool)]
abbrev KF : List RS := [.one]
def G9 [Lk] : Us → Option (Uh) := fun (a0, a1, _) =>
 match MR (a0, a1, ()) with
 | none => none
 | some (y0, _) => some ((ile 0 y0), ())
def Eh [Lk] := fun v => Lk.f (G9 v)
theorem OQ v : Eh v = G9 v := AK _
abbrev AKk : AE := [(.tmp 0, .dat U5)]
abbrev AKj : AE := [(.tmp 0, .di)]
abbrev AKi : List RS := [.one]
abbrev ANJ : AE := [(.tmp 0, .dat U5), (.tmp 3, .di), (.tmp 4, .di)]
abbrev ANI : At := [(.exit 0, [(.tmp 3, .di)])]
def Ie [Lk] : Uq → Option (Uq ⊕ U8 ⊕ Unit) := fun (a0, a1, a2, _) =>
 match (ilt a2 (AQ a0)) with
 | true => match idx a0 a2 with
  | none => none
  | some x0 => some (.inl (a0, (DT a1 x0), (IntKind.wrap .i64 (a2 + 1)), ()))
 | false => some (.inr (.inl (a1, ())))
def ACo [Lk] : Ui → Option (U8) := fun (a0, _) =>
 match (ilt (AQ a0) 1) with
 | true => none
 | false => match idx a0 0 with
 | none => none
 | some x0 => match AR Ie many (a0, x0, 1, ()) with
 | none => none
 | some r => match r with
 | .inl (o1, _) => some (o1, ())
 | .inr _ => none
def APl [Lk] := fun v => Lk.f (ACo v)
theorem ANK v : APl v = ACo v := AK _
abbrev ADP : AE := [(.tmp 0, .nil U2), (.tmp 1, .di)]
abbrev ADO : AE := [(.tmp 0, .own 3 U2)]
abbrev ADN : List RS := [.one]
def Ss [Lk] : U8 → Option (Ui) := fun (a0, _) =>
 match (ilt a0 0) with
 | true => none
 | false => match (ilt 0 (IntKind.wrap .i64 (a0 - (IntKind.wrap .i64 (0 - 0))))) with
 | true => match HL ([] : List Unit) 0 0 with
  | none => none
  | some _u0 => match (Hv (IntKind.wrap .i64 (a0 - (IntKind.wrap .i64 (0 - 0))))) with
  | true => match HL (KE (AG (IntKind.wrap .i64 (a0 - (IntKind.wrap .i64 ((0 : Int) - (0 : Int)))))) (0 : Int)) (0 : Int) (0 : Int) with
   | none => none
   | some x1 => some ((Cz (AG (AQ x1)) (KE (AG (IntKind.wrap .i64 (a0 - (IntKind.wrap .i64 ((0 : Int) - (0 : Int)))))) (0 : Int))), ())
  | false => none
 | false => some (([] : List (Int)), ())
def AHN [Lk] := fun v => Lk.f (Ss v)
theorem AHM v : AHN v = Ss v := AK _
abbrev QY : AE := [(.tmp 0, .dat Uk)]
abbrev QX : AE := [(.tmp 0, .own 3 U2)]
abbrev QW : List RS := [.one]
abbrev XS : AE := [(.tmp 6, .own 3 U2), (.tmp 25, .dat Uk), (.tmp 26, .di), (.tmp 27, .di)]
abbrev XQ : At := [(.exit 2, [(.tmp 6, .own 3 U2)])]
def DW [Lk] : (List Int × List U4 × Int × Int × Unit) → Option ((List Int × List U4 × Int × Int × Unit) ⊕ Ui ⊕ Unit) := fun (a0, a1, a2, a3, _) =>
 match (ilt a3 a2) with
 | true => match idx a1 a3 with
  | none => none
  | some x0 => match (fits ((AQ a0) + (AQ x0))) with
  | true => some (.inl ((BX a0 x0), a1, a2, (IntKind.wrap .i64 (a3 + 1)), ()))
  | false => none
 | false => some (.inr (.inl (a0, ())))
abbrev XT : AE := [(.tmp 0, .dat Uk), (.tmp 3, .di), (.tmp 9, .dat Uk), (.tmp 10, .di), (.tmp 11, .di)]
abbrev XR : At := [(.exit 0, [(.tmp 0, .dat Uk), (.tmp 3, .di)])]
def DX [Lk] : (List U4 × Int × List U4 × Int × Int × Unit) → Option ((List U4 × Int × List U4 × Int × Int × Unit) ⊕ V3 ⊕ Unit) := fun (a0, a1, a2, a3, a4, _) =>
 match (ilt a4 a3) with
 | true => match idx a2 a4 with
  | none => none
  | some x0 => match (ilt (IntKind.wrap .i64 (a1 + (AQ x0))) 0) with
  | true => none
  | false => some (.inl (a0, (IntKind.wrap .i64 (a1 + (AQ x0))), a2, a3, (IntKind.wrap .i64 (a4 + 1)), ()))
 | false => some (.inr (.inl (a0, a1, ())))
def K5 [Lk] : Ug → Option (Ui) := fun (a0, _) =>
 match AR DX many (a0, 0, a0, (AQ a0), 0, ()) with
 | none => none
 | some r => match r with
 | .inl (o0, o1, _) => match AHN (o1, ()) with
  | none => none
  | some (y2, _) => match AR DW many (y2, o0, (AQ o0), 0, ()) with
  | none => none
  | some r => match r with
  | .inl (o3, _) => some (o3, ())
  | .inr _ => none
 | .inr _ => none
def It [Lk] := fun v => Lk.f (K5 v)
theorem XU v : It v = K5 v := AK _
abbrev GO : AE := [(.tmp 0, .dat U5), (.tmp 1, .clo 195 [])]
abbrev GN : AE := [(.tmp 0, .di)]
abbrev GM : List RS := [.one]
abbrev JE : AE := [(.tmp 0, .dat U5), (.tmp 1, .clo 195 []), (.tmp 7, .di), (.tmp 8, .di)]
abbrev JD : At := [(.ret, [(.tmp 4, .di)]), (.exit 0, [])]
def Bc [Lk] : Uq → Option (Uq ⊕ U8 ⊕ (Unit) ⊕ Unit) := fun (a0, a1, a2, _) =>
 match (ilt a2 a1) with
 | true => match idx a0 a2 with
  | none => none
  | some x0 => match (ilt x0 0) with
  | true => some (.inr (.inl (a2, ())))
  | false => match (ilt 10000 x0) with
  | true => some (.inr (.inl (a2, ())))
  | false => some (.inl (a0, a1, (IntKind.wrap .i64 (a2 + 1)), ()))
 | false => some (.inr (.inr (.inl ())))
def D0 [Lk] : Ui → Option (U8) := fun (a0, _) =>
 match AR Bc many (a0, (AQ a0), 0, ()) with
 | none => none
 | some r => match r with
 | .inl (o0, _) => some (o0, ())
 | .inr r => match r with
 | .inl _ => some ((-1 : Int), ())
 | .inr _ => none
def Fb [Lk] := fun v => Lk.f (D0 v)
theorem JF v : Fb v = D0 v := AK _
abbrev FO : AE := [(.tmp 0, .dat U5), (.tmp 1, .clo 195 [])]
abbrev FN : AE := [(.tmp 0, .dat .bool)]
abbrev FM : List RS := [.one]
def DO [Lk] : Ui → Option (Uh) := fun (a0, _) =>
 match Fb (a0, ()) with
 | none => none
 | some (y0, _) => some ((ile 0 y0), ())
def DI [Lk] := fun v => Lk.f (DO v)
theorem Hy v : DI v = DO v := AK _
abbrev AKV : AE := [(.tmp 0, .dat U5)]
abbrev AKU : AE := [(.tmp 0, .dat .bool)]
abbrev AKT : List RS := [.one]
abbrev ANB : AE := [(.tmp 0, .dat U5), (.tmp 3, .map U2 U2), (.tmp 7, .dat U5), (.tmp 8, .di), (.tmp 9, .di)]
abbrev ANA : At := [(.exit 0, [(.tmp 0, .dat U5), (.tmp 3, .map U2 U2)])]
def IZ [Lk] : (List Int × List Ut × List Int × Int × Int × Unit) → Option ((List Int × List Ut × List Int × Int × Int × Unit) ⊕ (List Int × List Ut × Unit) ⊕ Unit) := fun (a0, a1, a2, a3, a4, _) =>
 match (ilt a4 a3) with
 | true => match idx a2 a4 with
  | none => none
  | some x0 => some (.inl (a0, (Ai a1 x0 (IntKind.wrap .i64 (((Ac a1 x0).getD 0) + 1))), a2, a3, (IntKind.wrap .i64 (a4 + 1)), ()))
 | false => some (.inr (.inl (a0, a1, ())))
def ACi [Lk] : Ui → Option (Uh) := fun (a0, _) =>
 match AR IZ many (a0, ([] : List Ut), a0, (AQ a0), 0, ()) with
 | none => none
 | some r => match r with
 | .inl (o0, o1, _) => some ((ieq (AQ o1) (AQ o0)), ())
 | .inr _ => none
def once [Lk] := fun v => Lk.f (ACi v)
theorem ANC v : once v = ACi v := AK _
abbrev VN : AE := [(.tmp 0, .dat U5)]
abbrev VM : AE := [(.tmp 0, .dat .bool)]
abbrev VL : List RS := [.one]
def Nb [Lk] : Ui → Option (Uh) := fun (a0, _) =>
 match (ilt 1000 (AQ a0)) with
 | true => some (false, ())
 | false => match DI (a0, ()) with
 | none => none
 | some (y0, _) => match (!y0) with
 | true => match once (a0, ()) with
  | none => none
  | some (y1, _) => some (y1, ())
 | false => some (false, ())
def L7 [Lk] := fun v => Lk.f (Nb v)
theorem Zm v : L7 v = Nb v := AK _
abbrev TB : AE := [(.tmp 0, .dat U5), (.tmp 1, .di)]
abbrev TA : AE := [(.tmp 0, .own 3 U2)]
abbrev S9 : List RS := [.one]
def M1 [Lk] : Us → Option (Ui) := fun (a0, a1, _) =>
 match HL a0 a1 (AQ a0) with
 | none => none
 | some x0 => match HL a0 0 a1 with
 | none => none
 | some x1 => match It (([x0, x1] : List U4), ()) with
 | none => none
 | some (y2, _) => some (y2, ())
def PI [Lk] := fun v => Lk.f (M1 v)
theorem Y4 v : PI v = M1 v := AK _
abbrev Vj : AE := [(.tmp 0, .dat U5), (.tmp 1, .dat U5)]
abbrev Vi : AE := [(.tmp 0, .own 3 U2), (.tmp 1, .dat .bool)]
abbrev Vh : List RS := [.one, .one]
abbrev Zu : AE := [(.tmp 0, .dat U5), (.tmp 6, .own 3 U2), (.tmp 12, .dat U5), (.tmp 13, .di), (.tmp 14, .di)]
abbrev Zt : At := [(.exit 0, [(.tmp 6, .own 3 U2)])]
def Df [Lk] : (List Int × List Int × List Int × Int × Int × Unit) → Option ((List Int × List Int × List Int × Int × Int × Unit) ⊕ Ui ⊕ Unit) := fun (a0, a1, a2, a3, a4, _) =>
 match (ilt a4 a3) with
 | true => match idx a2 a4 with
  | none => none
  | some x0 => match MR (a0, x0, ()) with
  | none => none
  | some (y1, _) => match (fits ((AQ a1) + (AQ ([y1] : List (Int))))) with
  | true => some (.inl (a0, (BX a1 ([y1] : List (Int))), a2, a3, (IntKind.wrap .i64 (a4 + 1)), ()))
  | false => none
 | false => some (.inr (.inl (a1, ())))
def Ng [Lk] : (List Int × List Int × Unit) → Option ((List Int × Bool × Unit)) := fun (a0, a1, _) =>
 match L7 (a0, ()) with
 | none => none
 | some (y0, _) => match (!y0) with
 | true => some (([] : List (Int)), false, ())
 | false => match AR Df many (a0, ([] : List (Int)), a1, (AQ a1), 0, ()) with
 | none => none
 | some r => match r with
 | .inl (o1, _) => match Eh (o1, (-1 : Int), ()) with
  | none => none
  | some (y2, _) => some (o1, (!y2), ())
 | .inr _ => none
def ACR [Lk] := fun v => Lk.f (Ng v)
theorem Zv v : ACR v = Ng v := AK _
abbrev ACI : AE := [(.tmp 0, .dat U5), (.tmp 1, .di)]
abbrev ACH : AE := [(.tmp 0, .own 3 U2), (.tmp 1, .dat .bool)]
abbrev ACG : List RS := [.one, .one]
def Sh [Lk] : Us → Option ((List Int × Bool × Unit)) := fun (a0, a1, _) =>
 match ACR (a0, ([a1] : List (Int)), ()) with
 | none => none
 | some (y0, y1, _) => match (!y1) with
 | true => some (([] : List (Int)), false, ())
 | false => match idx y0 0 with
 | none => none
 | some x2 => match PI (a0, (AT y0 0 0), ()) with
 | none => none
 | some (y3, _) => some (y3, true, ())
def Zo [Lk] := fun v => Lk.f (Sh v)
theorem AF6 v : Zo v = Sh v := AK _
abbrev VQ : AE := [(.tmp 0, .dat U5)]
abbrev VP : AE := [(.tmp 0, .own 3 U2)]
abbrev VO : List RS := [.one]
def Nc [Lk] : Ui → Option (Ui) := fun (a0, _) =>
 match L7 (a0, ()) with
 | none => none
 | some (y0, _) => match (!y0) with
 | true => some (([] : List (Int)), ())
 | false => match (ieq (AQ a0) 0) with
 | true => some (([] : List (Int)), ())
 | false => match APl (a0, ()) with
 | none => none
 | some (y1, _) => match MR (a0, y1, ()) with
 | none => none
 | some (y2, _) => match PI (a0, y2, ()) with
 | none => none
 | some (y3, _) => some (y3, ())
def VR [Lk] := fun v => Lk.f (Nc v)
theorem Zn v : VR v = Nc v := AK _
abbrev EX : AE := [(.tmp 0, .dat Uk), (.cap 1 0, .box 1), (.cell 0 0, .di), (.tmp 1, .clo 180 [(0, 0)])]
abbrev EW : AE := [(.obj 0, .box 1), (.cell 0 0, .di), (.tmp 0, .di)]
abbrev EV : List RS := [.one]
abbrev G0 : AE := [(.obj 0, .box 1), (.cell 0 0, .di), (.tmp 0, .dat Uk), (.tmp 1, .clo 180 [(0, 0)]), (.tmp 7, .di), (.tmp 8, .di)]
abbrev Gz : At := [(.ret, [(.obj 0, .box 1), (.cell 0 0, .di), (.tmp 4, .di)]), (.exit 0, [(.obj 0, .box 1), (.cell 0 0, .di)])]
def BQ [Lk] : (Int × List U4 × Int × Int × Unit) → Option ((Int × List U4 × Int × Int × Unit) ⊕ U3 ⊕ U8 ⊕ Unit) := fun (a0, a1, a2, a3, _) =>
 match (ilt a3 a2) with
 | true => match idx a1 a3 with
  | none => none
  | some x0 => match Eh (x0, a0, ()) with
  | none => none
  | some (y1, _) => match y1 with
  | true => some (.inr (.inl (a0, a3, ())))
  | false => some (.inl (a0, a1, a2, (IntKind.wrap .i64 (a3 + 1)), ()))
 | false => some (.inr (.inr (.inl (a0, ()))))
def C9 [Lk] : V3 → Option (U3) := fun (a0, a1, _) =>
 match AR BQ many (a1, a0, (AQ a0), 0, ()) with
 | none => none
 | some r => match r with
 | .inl (o0, o1, _) => some (o0, o1, ())
 | .inr r => match r with
 | .inl (o2, _) => some (o2, (-1 : Int), ())
 | .inr _ => none
def Dy [Lk] := fun v => Lk.f (C9 v)
theorem G1 v : Dy v = C9 v := AK _
abbrev TT : AE := [(.tmp 0, .dat U9), (.tmp 1, .di)]
abbrev TS : AE := [(.tmp 0, .di)]
abbrev TR : List RS := [.one]
def M7 [Lk] : (Ua × Int × Unit) → Option (U8) := fun (a0, a1, _) =>
 match Dy (a0.2.1, a1, ()) with
 | none => none
 | some (y0, y1, _) => some (y1, ())
def Ln [Lk] := fun v => Lk.f (M7 v)
theorem ZE v : Ln v = M7 v := AK _
abbrev ALT : AE := [(.tmp 0, .di), (.tmp 1, .dat U5)]
abbrev ALS : AE := [(.tmp 0, .dat .bool)]
abbrev ALR : List RS := [.one]
abbrev ANe : AE := [(.tmp 0, .di), (.tmp 5, .box 3), (.cell 0 0, .own 3 U2), (.cell 0 1, .map U2 U2), (.cell 0 2, .map U2 U2), (.tmp 30, .dat U5), (.tmp 31, .di), (.tmp 32, .di)]
abbrev ANd : At := [(.ret, [(.tmp 4, .dat .bool)]), (.exit 0, [(.tmp 5, .box 3), (.cell 0 0, .own 3 U2), (.cell 0 1, .map U2 U2), (.cell 0 2, .map U2 U2)])]
def G5 [Lk] : (Int × List Int × List Ut × List Ut × List Int × Int × Int × Unit) → Option ((Int × List Int × List Ut × List Ut × List Int × Int × Int × Unit) ⊕ Uh ⊕ (List Int × List Ut × List Ut × Unit) ⊕ Unit) := fun (a0, a1, a2, a3, a4, a5, a6, _) =>
 match (ilt a6 a5) with
 | true => match idx a4 a6 with
  | none => none
  | some x0 => match TF (a0, x0, ()) with
  | none => none
  | some (y1, y2, y3, y4, _) => match (!y4) with
  | true => some (.inr (.inl (false, ())))
  | false => match y3 with
  | true => match idx a1 (IntKind.wrap .i64 ((AQ a1) - 1)) with
   | none => none
   | some x5 => match (!(ieq (AT a1 (AG (IntKind.wrap .i64 ((AQ a1) - 1))) 0) y1)) with
   | true => some (.inr (.inl (false, ())))
   | false => match (ilt 0 (IntKind.wrap .i64 ((AQ a1) - 1))) with
   | true => match idx a1 (IntKind.wrap .i64 ((IntKind.wrap .i64 ((AQ a1) - 1)) - 1)) with
    | none => none
    | some x6 => match (ieq (AT a1 (AG (IntKind.wrap .i64 ((IntKind.wrap .i64 ((AQ a1) - 1)) - 1))) 0) y2) with
    | true => match HL a1 0 (IntKind.wrap .i64 ((AQ a1) - 1)) with
     | none => none
     | some x7 => match (!y3) with
     | true => match idx (Eg 0 (AG (AQ x7)) a1) (IntKind.wrap .i64 ((((AG (AQ x7)) : Nat) : Int) - 1)) with
      | none => none
      | some x8 => match (!(ieq (AT a1 (0 + (AG (IntKind.wrap .i64 ((((AG (AQ x7)) : Nat) : Int) - 1)))) 0) y1)) with
      | true => some (.inr (.inl (false, ())))
      | false => match (!y3) with
      | true => some (.inl (a0, (Cz (AG (AQ x7)) a1), a2, (Ai a3 y1 (IntKind.wrap .i64 (((Ac a3 y1).getD 0) + 1))), a4, a5, (IntKind.wrap .i64 (a6 + 1)), ()))
      | false => some (.inl (a0, (Cz (AG (AQ x7)) a1), a2, a3, a4, a5, (IntKind.wrap .i64 (a6 + 1)), ()))
     | false => match (!y3) with
     | true => some (.inl (a0, (Cz (AG (AQ x7)) a1), a2, (Ai a3 y1 (IntKind.wrap .i64 (((Ac a3 y1).getD 0) + 1))), a4, a5, (IntKind.wrap .i64 (a6 + 1)), ()))
     | false => some (.inl (a0, (Cz (AG (AQ x7)) a1), a2, a3, a4, a5, (IntKind.wrap .i64 (a6 + 1)), ()))
    | false => match (ilt 0 ((Ac a2 y2).getD 0)) with
    | true => some (.inr (.inl (false, ())))
    | false => match (fits ((AQ a1) + (AQ ([y2] : List (Int))))) with
    | true => match (!y3) with
     | true => match idx (BX a1 ([y2] : List (Int))) (IntKind.wrap .i64 ((AQ (BX a1 ([y2] : List (Int)))) - 1)) with
      | none => none
      | some x9 => match (!(ieq (AT (BX a1 ([y2] : List (Int))) (AG (IntKind.wrap .i64 ((AQ (BX a1 ([y2] : List (Int)))) - 1))) 0) y1)) with
      | true => some (.inr (.inl (false, ())))
      | false => match (!y3) with
      | true => some (.inl (a0, (BX a1 ([y2] : List (Int))), (Ai a2 y2 (IntKind.wrap .i64 (((Ac a2 y2).getD 0) + 1))), (Ai a3 y1 (IntKind.wrap .i64 (((Ac a3 y1).getD 0) + 1))), a4, a5, (IntKind.wrap .i64 (a6 + 1)), ()))
      | false => some (.inl (a0, (BX a1 ([y2] : List (Int))), (Ai a2 y2 (IntKind.wrap .i64 (((Ac a2 y2).getD 0) + 1))), a3, a4, a5, (IntKind.wrap .i64 (a6 + 1)), ()))
     | false => match (!y3) with
     | true => some (.inl (a0, (BX a1 ([y2] : List (Int))), (Ai a2 y2 (IntKind.wrap .i64 (((Ac a2 y2).getD 0) + 1))), (Ai a3 y1 (IntKind.wrap .i64 (((Ac a3 y1).getD 0) + 1))), a4, a5, (IntKind.wrap .i64 (a6 + 1)), ()))
     | false => some (.inl (a0, (BX a1 ([y2] : List (Int))), (Ai a2 y2 (IntKind.wrap .i64 (((Ac a2 y2).getD 0) + 1))), a3, a4, a5, (IntKind.wrap .i64 (a6 + 1)), ()))
    | false => none
   | false => match (ilt 0 ((Ac a2 y2).getD 0)) with
   | true => some (.inr (.inl (false, ())))
   | false => match (fits ((AQ a1) + (AQ ([y2] : List (Int))))) with
   | true => match (!y3) with
    | true => match idx (BX a1 ([y2] : List (Int))) (IntKind.wrap .i64 ((AQ (BX a1 ([y2] : List (Int)))) - 1)) with
     | none => none
     | some x10 => match (!(ieq (AT (BX a1 ([y2] : List (Int))) (AG (IntKind.wrap .i64 ((AQ (BX a1 ([y2] : List (Int)))) - 1))) 0) y1)) with
     | true => some (.inr (.inl (false, ())))
     | false => match (!y3) with
     | true => some (.inl (a0, (BX a1 ([y2] : List (Int))), (Ai a2 y2 (IntKind.wrap .i64 (((Ac a2 y2).getD 0) + 1))), (Ai a3 y1 (IntKind.wrap .i64 (((Ac a3 y1).getD 0) + 1))), a4, a5, (IntKind.wrap .i64 (a6 + 1)), ()))
     | false => some (.inl (a0, (BX a1 ([y2] : List (Int))), (Ai a2 y2 (IntKind.wrap .i64 (((Ac a2 y2).getD 0) + 1))), a3, a4, a5, (IntKind.wrap .i64 (a6 + 1)), ()))
    | false => match (!y3) with
    | true => some (.inl (a0, (BX a1 ([y2] : List (Int))), (Ai a2 y2 (IntKind.wrap .i64 (((Ac a2 y2).getD 0) + 1))), (Ai a3 y1 (IntKind.wrap .i64 (((Ac a3 y1).getD 0) + 1))), a4, a5, (IntKind.wrap .i64 (a6 + 1)), ()))
    | false => some (.inl (a0, (BX a1 ([y2] : List (Int))), (Ai a2 y2 (IntKind.wrap .i64 (((Ac a2 y2).getD 0) + 1))), a3, a4, a5, (IntKind.wrap .i64 (a6 + 1)), ()))
   | false => none
  | false => match (!y3) with
  | true => match idx a1 (IntKind.wrap .i64 ((AQ a1) - 1)) with
   | none => none
   | some x11 => match (!(ieq (AT a1 (AG (IntKind.wrap .i64 ((AQ a1) - 1))) 0) y1)) with
   | true => some (.inr (.inl (false, ())))
   | false => match (!y3) with
   | true => some (.inl (a0, a1, a2, (Ai a3 y1 (IntKind.wrap .i64 (((Ac a3 y1).getD 0) + 1))), a4, a5, (IntKind.wrap .i64 (a6 + 1)), ()))
   | false => some (.inl (a0, a1, a2, a3, a4, a5, (IntKind.wrap .i64 (a6 + 1)), ()))
  | false => match (!y3) with
  | true => some (.inl (a0, a1, a2, (Ai a3 y1 (IntKind.wrap .i64 (((Ac a3 y1).getD 0) + 1))), a4, a5, (IntKind.wrap .i64 (a6 + 1)), ()))
  | false => some (.inl (a0, a1, a2, a3, a4, a5, (IntKind.wrap .i64 (a6 + 1)), ()))
 | false => some (.inr (.inr (.inl (a1, a2, a3, ()))))
def ADR [Lk] : (Int × List Int × Unit) → Option (Uh) := fun (a0, a1, _) =>
 match idx a1 0 with
 | none => none
 | some x0 => match tin (a0, x0, ()) with
 | none => none
 | some (y1, _) => match (!y1) with
 | true => some (false, ())
 | false => match idx a1 0 with
 | none => none
 | some x2 => match idx a1 0 with
 | none => none
 | some x3 => match AR G5 many (a0, ([x2] : List (Int)), (Ai ([] : List Ut) x3 1), ([] : List Ut), a1, (AQ a1), 0, ()) with
 | none => none
 | some r => match r with
 | .inl (o4, _) => some (o4, ())
 | .inr r => match r with
 | .inl (o5, o6, o7, _) => match (ieq (AQ o5) 1) with
  | true => some ((ieq (AQ o7) (AQ o6)), ())
  | false => some (false, ())
 | .inr _ => none
def ATq [Lk] := fun v => Lk.f (ADR v)
theorem ANf v : ATq v = ADR v := AK _
abbrev TP : AE := [(.tmp 0, .dat U9)]
abbrev TO : AE := [(.tmp 0, .dat .bool)]
abbrev TN : List RS := [.one]
abbrev ZA : AE := [(.tmp 3, .map U2 U2), (.tmp 78, .di), (.tmp 79, .di)]
abbrev Y7 : At := [(.ret, [(.tmp 2, .dat .bool)]), (.exit 4, [])]
def Dc [Lk] : (List Ut × Int × Int × Unit) → Option ((List Ut × Int × Int × Unit) ⊕ Uh ⊕ (Unit) ⊕ Unit) := fun (a0, a1, a2, _) =>
 match (ilt a2 a1) with
 | true => match (ieq ((Ac a0 a2).getD 0) 0) with
  | true => some (.inr (.inl (false, ())))
  | false => some (.inl (a0, a1, (IntKind.wrap .i64 (a2 + 1)), ()))
 | false => some (.inr (.inr (.inl ())))
abbrev ZB : AE := [(.tmp 1, .box 2), (.cell 0 0, .di), (.cell 0 1, .dat Uk), (.tmp 3, .map U2 U2), (.tmp 4, .di), (.tmp 16, .dat Uk), (.tmp 17, .di), (.tmp 18, .di), (.tmp 26, .dat U5), (.tmp 28, .di), (.tmp 29, .di), (.tmp 30, .dat .bool), (.tmp 33, .dat U5), (.tmp 34, .dat .bool), (.tmp 35, .dat .bool), (.tmp 38, .dat U5), (.tmp 39, .di), (.tmp 40, .dat U5), (.tmp 42, .di), (.tmp 43, .dat .bool), (.tmp 46, .ptr' 0 0), (.tmp 47, .di), (.tmp 48, .dat U5), (.tmp 49, .dat .bool), (.tmp 50, .dat .bool), (.tmp 55, .dat U5), (.tmp 56, .di), (.tmp 57, .di)]
abbrev Y8 : At := [(.ret, [(.tmp 2, .dat .bool)]), (.exit 2, [(.tmp 1, .box 2), (.cell 0 0, .di), (.cell 0 1, .dat Uk), (.tmp 3, .map U2 U2), (.tmp 4, .di), (.tmp 16, .dat Uk), (.tmp 17, .di), (.tmp 18, .di), (.tmp 26, .dat U5), (.tmp 28, .di), (.tmp 29, .di), (.tmp 30, .dat .bool), (.tmp 33, .dat U5), (.tmp 34, .dat .bool), (.tmp 35, .dat .bool), (.tmp 38, .dat U5), (.tmp 39, .di), (.tmp 40, .dat U5), (.tmp 42, .di), (.tmp 43, .dat .bool), (.tmp 46, .ptr' 0 0), (.tmp 47, .di), (.tmp 48, .dat U5), (.tmp 49, .dat .bool), (.tmp 50, .dat .bool)])]
def C1 [Lk] : Up → Option (Up ⊕ Uh ⊕ (Int × List U4 × List Ut × Int × List U4 × Int × Int × List Int × Int × Int × Bool × List Int × Bool × Bool × List Int × Int × List Int × Int × Bool × Int × List Int × Bool × Bool × Unit) ⊕ Unit) := fun (a0, a1, a2, a3, a4, a5, a6, a7, a8, a9, a10, a11, a12, a13, a14, a15, a16, a17, a18, a19, a20, a21, a22, a23, a24, a25, _) =>
 match (ilt a25 a24) with
 | true => match idx a23 a25 with
  | none => none
  | some x0 => match (ilt x0 a0) with
  | true => match (ilt 0 ((Ac a2 x0).getD 0)) with
   | true => some (.inr (.inl (false, ())))
   | false => some (.inl (a0, a1, (Ai a2 x0 (IntKind.wrap .i64 (((Ac a2 x0).getD 0) + 1))), a3, a4, a5, a6, a7, a8, a9, a10, a11, a12, a13, a14, a15, a16, a17, a18, a19, a20, a21, a22, a23, a24, (IntKind.wrap .i64 (a25 + 1)), ()))
  | false => some (.inl (a0, a1, (Ai a2 x0 (IntKind.wrap .i64 (((Ac a2 x0).getD 0) + 1))), a3, a4, a5, a6, a7, a8, a9, a10, a11, a12, a13, a14, a15, a16, a17, a18, a19, a20, a21, a22, a23, a24, (IntKind.wrap .i64 (a25 + 1)), ()))
 | false => some (.inr (.inr (.inl (a0, a1, a2, a3, a4, a5, a6, a7, a8, a9, a10, a11, a12, a13, a14, a15, a16, a17, a18, a19, a20, a21, a22, ()))))
abbrev ZC : AE := [(.tmp 1, .box 2), (.cell 0 0, .di), (.cell 0 1, .dat Uk), (.tmp 3, .map U2 U2), (.tmp 4, .di), (.tmp 16, .dat Uk), (.tmp 17, .di), (.tmp 18, .di)]
abbrev Y9 : At := [(.ret, [(.tmp 2, .dat .bool)]), (.exit 0, [(.tmp 1, .box 2), (.cell 0 0, .di), (.cell 0 1, .dat Uk), (.tmp 3, .map U2 U2)])]
def C2 [Lk] : (Int × List U4 × List Ut × Int × List U4 × Int × Int × Unit) → Option ((Int × List U4 × List Ut × Int × List U4 × Int × Int × Unit) ⊕ Uh ⊕ (Int × List U4 × List Ut × Unit) ⊕ Unit) := fun (a0, a1, a2, a3, a4, a5, a6, _) =>
 match (ilt a6 a5) with
 | true => match idx a4 a6 with
  | none => none
  | some x0 => match (ieq (AQ x0) 0) with
  | true => some (.inr (.inl (false, ())))
  | false => match idx x0 0 with
  | none => none
  | some x1 => match (ile x1 a3) with
  | true => some (.inr (.inl (false, ())))
  | false => match L7 (x0, ()) with
  | none => none
  | some (y2, _) => match (!y2) with
  | true => some (.inr (.inl (false, ())))
  | false => match APl (x0, ()) with
  | none => none
  | some (y3, _) => match idx x0 0 with
  | none => none
  | some x4 => match (!(ieq y3 x4)) with
  | true => some (.inr (.inl (false, ())))
  | false => match ATq (a0, x0, ()) with
  | none => none
  | some (y5, _) => match (!y5) with
  | true => some (.inr (.inl (false, ())))
  | false => match idx x0 0 with
  | none => none
  | some x6 => match AR C1 many (a0, a1, a2, x6, a4, a5, a6, x0, x1, a3, (ile x1 a3), x0, y2, (!y2), x0, y3, x0, x4, (!(ieq y3 x4)), a0, x0, y5, (!y5), x0, (AQ x0), 0, ()) with
  | none => none
  | some r => match r with
  | .inl (o7, _) => some (.inr (.inl (o7, ())))
  | .inr r => match r with
  | .inl (o8, o9, o10, o11, o12, o13, o14, o15, o16, o17, o18, o19, o20, o21, o22, o23, o24, o25, o26, o27, o28, o29, o30, _) => some (.inl (o8, o9, o10, o11, o12, o13, (IntKind.wrap .i64 (o14 + 1)), ()))
  | .inr _ => none
 | false => some (.inr (.inr (.inl (a0, a1, a2, ()))))
def M6 [Lk] : (Ua × Unit) → Option (Uh) := fun (a0, _) =>
 match JM (a0.1, ()) with
 | none => none
 | some (y0, _) => match (!y0) with
 | true => some (false, ())
 | false => match AR C2 many (a0.1, a0.2.1, ([] : List Ut), (-1 : Int), a0.2.1, (AQ a0.2.1), 0, ()) with
 | none => none
 | some r => match r with
 | .inl (o1, _) => some (o1, ())
 | .inr r => match r with
 | .inl (o2, o3, o4, _) => match AR Dc many (o4, o2, 0, ()) with
  | none => none
  | some r => match r with
  | .inl (o5, _) => some (o5, ())
  | .inr r => match r with
  | .inl _ => some (true, ())
  | .inr _ => none
 | .inr _ => none
def Ll [Lk] := fun v => Lk.f (M6 v)
theorem ZD v : Ll v = M6 v := AK _
abbrev AED : AE := [(.tmp 0, .dat U9), (.tmp 1, .di), (.tmp 2, .di)]
abbrev AEC : AE := [(.tmp 0, .di)]
abbrev AEB : List RS := [.one]
def S0 [Lk] : (Ua × Int × Int × Unit) → Option (U8) := fun (a0, a1, a2, _) =>
 match Ll ((a0.1, (a0.2.1, ())), ()) with
 | none => none
 | some (y0, _) => match (!y0) with
 | true => some (1, ())
 | false => match tin (a0.1, a1, ()) with
 | none => none
 | some (y1, _) => match (!y1) with
 | true => some (10, ())
 | false => match tin (a0.1, a2, ()) with
 | none => none
 | some (y2, _) => match (!y2) with
 | true => some (10, ())
 | false => some (0, ())
def asked [Lk] := fun v => Lk.f (S0 v)
theorem AH8 v : asked v = S0 v := AK _
abbrev AKd : AE := [(.tmp 0, .di)]
abbrev AKc : AE := [(.tmp 0, .dat .bool)]
abbrev AKb : List RS := [.one]
def WL [Lk] : U8 → Option (Uh) := fun (a0, _) =>
 some ((!(ieq a0 a0)), ())
def ATD [Lk] := fun v => Lk.f (WL v)
theorem ACn v : ATD v = WL v := AK _
abbrev Mi : AE := [(.tmp 0, .di), (.tmp 1, .di)]
abbrev Mh : AE := [(.tmp 0, .di)]
abbrev Mg : List RS := [.one]
def Ga [Lk] : U3 → Option (U8) := fun (a0, a1, _) =>
 match ATD (a0, ()) with
 | none => none
 | some (y0, _) => match ATD (a1, ()) with
 | none => none
 | some (y1, _) => match y0 with
 | true => match y1 with
  | true => some (0, ())
  | false => some ((-1 : Int), ())
 | false => match y1 with
 | true => some (1, ())
 | false => match (ilt a0 a1) with
 | true => some ((-1 : Int), ())
 | false => match (ilt a1 a0) with
 | true => some (1, ())
 | false => some (0, ())
def E9 [Lk] := fun v => Lk.f (Ga v)
theorem KJ v : E9 v = Ga v := AK _
abbrev AAq : AE := [(.tmp 0, .dat U5), (.tmp 1, .dat U5)]
abbrev AAp : AE := [(.tmp 0, .di)]
abbrev AAo : List RS := [.one]
def SW [Lk] : (List Int × List Int × Unit) → Option (U8) := fun (a0, a1, _) =>
 match idx a0 0 with
 | none => none
 | some x0 => match idx a1 0 with
 | none => none
 | some x1 => match E9 (x0, x1, ()) with
 | none => none
 | some (y2, _) => some (y2, ())
def A4 [Lk] := fun v => Lk.f (SW v)
theorem AEd v : A4 v = SW v := AK _
def FL : List Int := [0, 1, 2, 2, 3, 3, 3, 3, 4, 4, 4, 4, 4, 4, 4, 4, 5, 5, 5, 5, 5, 5, 5, 5, 5, 5, 5, 5, 5, 5, 5, 5, 6, 6, 6, 6, 6, 6, 6, 6, 6, 6, 6, 6, 6, 6, 6, 6, 6, 6, 6, 6, 6, 6, 6, 6, 6, 6, 6, 6, 6, 6, 6, 6, 7, 7, 7, 7, 7, 7, 7, 7, 7, 7, 7, 7, 7, 7, 7, 7, 7, 7, 7, 7, 7, 7, 7, 7, 7, 7, 7, 7, 7, 7, 7, 7, 7, 7, 7, 7, 7, 7, 7, 7, 7, 7, 7, 7, 7, 7, 7, 7, 7, 7, 7, 7, 7, 7, 7, 7, 7, 7, 7, 7, 7, 7, 7, 7, 8, 8, 8, 8, 8, 8, 8, 8, 8, 8, 8, 8, 8, 8, 8, 8, 8, 8, 8, 8, 8, 8, 8, 8, 8, 8, 8, 8, 8, 8, 8, 8, 8, 8, 8, 8, 8, 8, 8, 8, 8, 8, 8, 8, 8, 8, 8, 8, 8, 8, 8, 8, 8, 8, 8, 8, 8, 8, 8, 8, 8, 8, 8, 8, 8, 8, 8, 8, 8, 8, 8, 8, 8, 8, 8, 8, 8, 8, 8, 8, 8, 8, 8, 8, 8, 8, 8, 8, 8, 8, 8, 8, 8, 8, 8, 8, 8, 8, 8, 8, 8, 8, 8, 8, 8, 8, 8, 8, 8, 8, 8, 8, 8, 8, 8, 8, 8, 8, 8, 8, 8, 8, 8, 8, 8, 8, 8, 8]
abbrev ACy : AE := [(.tmp 0, .dat (.int .u64))]
abbrev ACx : AE := [(.tmp 0, .di)]
abbrev ACw : List RS := [.one]
def Sp [Lk] : U8 → Option (U8) := fun (a0, _) =>
 match (ile 4294967296 a0) with
 | true => match shr? .u64 a0 32 with
  | none => none
  | some x0 => match (ile 65536 x0) with
  | true => match shr? .u64 x0 16 with
   | none => none
   | some x1 => match (ile 256 x1) with
   | true => match shr? .u64 x1 8 with
    | none => none
    | some x2 => match idx FL (IntKind.wrap .u8 x2) with
    | none => none
    | some x3 => some ((IntKind.wrap .i64 ((IntKind.wrap .i64 ((IntKind.wrap .i64 (32 + 16)) + 8)) + (IntKind.wrap .i64 x3))), ())
   | false => match idx FL (IntKind.wrap .u8 x1) with
   | none => none
   | some x4 => some ((IntKind.wrap .i64 ((IntKind.wrap .i64 (32 + 16)) + (IntKind.wrap .i64 x4))), ())
  | false => match (ile 256 x0) with
  | true => match shr? .u64 x0 8 with
   | none => none
   | some x5 => match idx FL (IntKind.wrap .u8 x5) with
   | none => none
   | some x6 => some ((IntKind.wrap .i64 ((IntKind.wrap .i64 (32 + 8)) + (IntKind.wrap .i64 x6))), ())
  | false => match idx FL (IntKind.wrap .u8 x0) with
  | none => none
  | some x7 => some ((IntKind.wrap .i64 (32 + (IntKind.wrap .i64 x7))), ())
 | false => match (ile 65536 a0) with
 | true => match shr? .u64 a0 16 with
  | none => none
  | some x8 => match (ile 256 x8) with
  | true => match shr? .u64 x8 8 with
   | none => none
   | some x9 => match idx FL (IntKind.wrap .u8 x9) with
   | none => none
   | some x10 => some ((IntKind.wrap .i64 ((IntKind.wrap .i64 ((IntKind.wrap .i64 (0 + 16)) + 8)) + (IntKind.wrap .i64 x10))), ())
  | false => match idx FL (IntKind.wrap .u8 x8) with
  | none => none
  | some x11 => some ((IntKind.wrap .i64 ((IntKind.wrap .i64 (0 + 16)) + (IntKind.wrap .i64 x11))), ())
 | false => match (ile 256 a0) with
 | true => match shr? .u64 a0 8 with
  | none => none
  | some x12 => match idx FL (IntKind.wrap .u8 x12) with
  | none => none
  | some x13 => some ((IntKind.wrap .i64 ((IntKind.wrap .i64 (0 + 8)) + (IntKind.wrap .i64 x13))), ())
 | false => match idx FL (IntKind.wrap .u8 a0) with
 | none => none
 | some x14 => some ((IntKind.wrap .i64 (0 + (IntKind.wrap .i64 x14))), ())
def AG5 [Lk] := fun v => Lk.f (Sp v)
theorem AG4 v : AG5 v = Sp v := AK _
abbrev Qd : AE := [(.tmp 0, .dat (.int .u64))]
abbrev Qc : AE := [(.tmp 0, .di)]
abbrev Qb : List RS := [.one]
def K7 [Lk] : U8 → Option (U8) := fun (a0, _) =>
 match AG5 (a0, ()) with
 | none => none
 | some (y0, _) => some (y0, ())
def bitsLen [Lk] := fun v => Lk.f (K7 v)
theorem Xe v : bitsLen v = K7 v := AK _
abbrev PH : AE := [(.tmp 0, .box 1), (.cell 0 0, .dat (.int .u64))]
abbrev PG : AE := [(.obj 0, .box 1), (.cell 0 0, .dat (.int .u64)), (.tmp 0, .dat (.int .u64))]
abbrev PF : List RS := [.one]
def Kh [Lk] : U8 → Option (U3) := fun (a0, _) =>
 match shl? .u64 a0 13 with
 | none => none
 | some x0 => match shr? .u64 (IntKind.wrap .u64 ((BitVec.ofInt (IntKind.bits .u64) a0 ^^^ BitVec.ofInt (IntKind.bits .u64) x0).toNat)) 7 with
 | none => none
 | some x1 => match shl? .u64 (IntKind.wrap .u64 ((BitVec.ofInt (IntKind.bits .u64) (IntKind.wrap .u64 ((BitVec.ofInt (IntKind.bits .u64) a0 ^^^ BitVec.ofInt (IntKind.bits .u64) x0).toNat)) ^^^ BitVec.ofInt (IntKind.bits .u64) x1).toNat)) 17 with
 | none => none
 | some x2 => some ((IntKind.wrap .u64 ((BitVec.ofInt (IntKind.bits .u64) (IntKind.wrap .u64 ((BitVec.ofInt (IntKind.bits .u64) (IntKind.wrap .u64 ((BitVec.ofInt (IntKind.bits .u64) a0 ^^^ BitVec.ofInt (IntKind.bits .u64) x0).toNat)) ^^^ BitVec.ofInt (IntKind.bits .u64) x1).toNat)) ^^^ BitVec.ofInt (IntKind.bits .u64) x2).toNat)), (IntKind.wrap .u64 ((BitVec.ofInt (IntKind.bits .u64) (IntKind.wrap .u64 ((BitVec.ofInt (IntKind.bits .u64) (IntKind.wrap .u64 ((BitVec.ofInt (IntKind.bits .u64) a0 ^^^ BitVec.ofInt (IntKind.bits .u64) x0).toNat)) ^^^ BitVec.ofInt (IntKind.bits .u64) x1).toNat)) ^^^ BitVec.ofInt (IntKind.bits .u64) x2).toNat)), ())
def xorNext [Lk] := fun v => Lk.f (Kh v)
theorem S6 v : xorNext v = Kh v := AK _
abbrev Pu : AE := [(.tmp 0, .di)]
abbrev Pt : AE := [(.tmp 0, .dat (.int .u64))]
abbrev Ps : List RS := [.one]
def Kx [Lk] : U8 → Option (U8) := fun (a0, _) =>
 match bitsLen ((IntKind.wrap .u64 a0), ()) with
 | none => none
 | some (y0, _) => match shl? .u64 1 y0 with
 | none => none
 | some x1 => some (x1, ())
def Nq [Lk] := fun v => Lk.f (Kx v)
theorem WK v : Nq v = Kx v := AK _
def Ew [Lk] {α : Type} (z : α) (c : α × α × Unit → Option U8) : (List α × Int × Int × Int × Int × Unit) → Option ((List α × Int × Int × Int × Int × Unit) ⊕ (List α × Int × Int × Int × Unit) ⊕ Unit) := fun (a0, a1, a2, a3, a4, _) =>
 match (ilt a1 a4) with
 | true => match idx a0 a4 with
  | none => none
  | some x0 => match idx a0 (IntKind.wrap .i64 (a4 - 1)) with
  | none => none
  | some x1 => match c ((AT a0 (AG a4) z), (AT a0 (AG (IntKind.wrap .i64 (a4 - 1))) z), ()) with
  | none => none
  | some (y2, _) => match (ilt y2 0) with
  | true => match idx a0 (IntKind.wrap .i64 (a4 - 1)) with
   | none => none
   | some x3 => match idx a0 a4 with
   | none => none
   | some x4 => match idx a0 a4 with
   | none => none
   | some x5 => match idx (Ak a0 (AG a4) (AT a0 (AG (IntKind.wrap .i64 (a4 - 1))) z)) (IntKind.wrap .i64 (a4 - 1)) with
   | none => none
   | some x6 => some (.inl ((Ak (Ak a0 (AG a4) (AT a0 (AG (IntKind.wrap .i64 (a4 - 1))) z)) (AG (IntKind.wrap .i64 (a4 - 1))) (AT a0 (AG a4) z)), a1, a2, a3, (IntKind.wrap .i64 (a4 - 1)), ()))
  | false => some (.inr (.inl (a0, a1, a2, a3, ())))
 | false => some (.inr (.inl (a0, a1, a2, a3, ())))
def DN [Lk] {α : Type} (z : α) (c : α × α × Unit → Option U8) : (List α × Int × Int × Int × Unit) → Option ((List α × Int × Int × Int × Unit) ⊕ (List α × Unit) ⊕ Unit) := fun (a0, a1, a2, a3, _) =>
 match (ilt a3 a2) with
 | true => match AR (Ew z c) many (a0, a1, a2, a3, a3, ()) with
  | none => none
  | some r => match r with
  | .inl (o0, o1, o2, o3, _) => some (.inl (o0, o1, o2, (IntKind.wrap .i64 (o3 + 1)), ()))
  | .inr _ => none
 | false => some (.inr (.inl (a0, ())))
def MP [Lk] {α : Type} (z : α) (c : α × α × Unit → Option U8) : (List α × Int × Int × Unit) → Option ((List α × Unit)) := fun (a0, a1, a2, _) =>
 match AR (DN z c) many (a0, a1, a2, (IntKind.wrap .i64 (a1 + 1)), ()) with
 | none => none
 | some r => match r with
 | .inl (o0, _) => some (o0, ())
 | .inr _ => none
def ATX [Lk] {α : Type} (z : α) (c : α × α × Unit → Option U8) (v : (List α × Int × Int × Unit)) : Option ((List α × Unit)) := Lk.f ((MP z c) v)
theorem AV7 {α : Type} (z : α) (c : α × α × Unit → Option U8) (v : (List α × Int × Int × Unit)) : (ATX z c) v = (MP z c) v := AK _
def Je [Lk] {α : Type} (z : α) (c : α × α × Unit → Option U8) : (List α × Int × Int × Int × Unit) → Option ((List α × Int × Int × Int × Unit) ⊕ (List α × Unit) ⊕ (List α × Unit) ⊕ Unit) := fun (a0, a1, a2, a3, _) =>
 match (ile a1 (IntKind.wrap .i64 ((IntKind.wrap .i64 (2 * a3)) + 1))) with
 | true => some (.inr (.inl (a0, ())))
 | false => match (ilt (IntKind.wrap .i64 ((IntKind.wrap .i64 ((IntKind.wrap .i64 (2 * a3)) + 1)) + 1)) a1) with
 | true => match idx a0 (IntKind.wrap .i64 (a2 + (IntKind.wrap .i64 ((IntKind.wrap .i64 (2 * a3)) + 1)))) with
  | none => none
  | some x0 => match idx a0 (IntKind.wrap .i64 ((IntKind.wrap .i64 (a2 + (IntKind.wrap .i64 ((IntKind.wrap .i64 (2 * a3)) + 1)))) + 1)) with
  | none => none
  | some x1 => match c ((AT a0 (AG (IntKind.wrap .i64 (a2 + (IntKind.wrap .i64 ((IntKind.wrap .i64 (2 * a3)) + 1))))) z), (AT a0 (AG (IntKind.wrap .i64 ((IntKind.wrap .i64 (a2 + (IntKind.wrap .i64 ((IntKind.wrap .i64 (2 * a3)) + 1)))) + 1))) z), ()) with
  | none => none
  | some (y2, _) => match (ilt y2 0) with
  | true => match idx a0 (IntKind.wrap .i64 (a2 + a3)) with
   | none => none
   | some x3 => match idx a0 (IntKind.wrap .i64 (a2 + (IntKind.wrap .i64 ((IntKind.wrap .i64 ((IntKind.wrap .i64 (2 * a3)) + 1)) + 1)))) with
   | none => none
   | some x4 => match c ((AT a0 (AG (IntKind.wrap .i64 (a2 + a3))) z), (AT a0 (AG (IntKind.wrap .i64 (a2 + (IntKind.wrap .i64 ((IntKind.wrap .i64 ((IntKind.wrap .i64 (2 * a3)) + 1)) + 1))))) z), ()) with
   | none => none
   | some (y5, _) => match (!(ilt y5 0)) with
   | true => some (.inr (.inr (.inl (a0, ()))))
   | false => match idx a0 (IntKind.wrap .i64 (a2 + (IntKind.wrap .i64 ((IntKind.wrap .i64 ((IntKind.wrap .i64 (2 * a3)) + 1)) + 1)))) with
   | none => none
   | some x6 => match idx a0 (IntKind.wrap .i64 (a2 + a3)) with
   | none => none
   | some x7 => match idx a0 (IntKind.wrap .i64 (a2 + a3)) with
   | none => none
   | some x8 => match idx (Ak a0 (AG (IntKind.wrap .i64 (a2 + a3))) (AT a0 (AG (IntKind.wrap .i64 (a2 + (IntKind.wrap .i64 ((IntKind.wrap .i64 ((IntKind.wrap .i64 (2 * a3)) + 1)) + 1))))) z)) (IntKind.wrap .i64 (a2 + (IntKind.wrap .i64 ((IntKind.wrap .i64 ((IntKind.wrap .i64 (2 * a3)) + 1)) + 1)))) with
   | none => none
   | some x9 => some (.inl ((Ak (Ak a0 (AG (IntKind.wrap .i64 (a2 + a3))) (AT a0 (AG (IntKind.wrap .i64 (a2 + (IntKind.wrap .i64 ((IntKind.wrap .i64 ((IntKind.wrap .i64 (2 * a3)) + 1)) + 1))))) z)) (AG (IntKind.wrap .i64 (a2 + (IntKind.wrap .i64 ((IntKind.wrap .i64 ((IntKind.wrap .i64 (2 * a3)) + 1)) + 1))))) (AT a0 (AG (IntKind.wrap .i64 (a2 + a3))) z)), a1, a2, (IntKind.wrap .i64 ((IntKind.wrap .i64 ((IntKind.wrap .i64 (2 * a3)) + 1)) + 1)), ()))
  | false => match idx a0 (IntKind.wrap .i64 (a2 + a3)) with
  | none => none
  | some x10 => match idx a0 (IntKind.wrap .i64 (a2 + (IntKind.wrap .i64 ((IntKind.wrap .i64 (2 * a3)) + 1)))) with
  | none => none
  | some x11 => match c ((AT a0 (AG (IntKind.wrap .i64 (a2 + a3))) z), (AT a0 (AG (IntKind.wrap .i64 (a2 + (IntKind.wrap .i64 ((IntKind.wrap .i64 (2 * a3)) + 1))))) z), ()) with
  | none => none
  | some (y12, _) => match (!(ilt y12 0)) with
  | true => some (.inr (.inr (.inl (a0, ()))))
  | false => match idx a0 (IntKind.wrap .i64 (a2 + (IntKind.wrap .i64 ((IntKind.wrap .i64 (2 * a3)) + 1)))) with
  | none => none
  | some x13 => match idx a0 (IntKind.wrap .i64 (a2 + a3)) with
  | none => none
  | some x14 => match idx a0 (IntKind.wrap .i64 (a2 + a3)) with
  | none => none
  | some x15 => match idx (Ak a0 (AG (IntKind.wrap .i64 (a2 + a3))) (AT a0 (AG (IntKind.wrap .i64 (a2 + (IntKind.wrap .i64 ((IntKind.wrap .i64 (2 * a3)) + 1))))) z)) (IntKind.wrap .i64 (a2 + (IntKind.wrap .i64 ((IntKind.wrap .i64 (2 * a3)) + 1)))) with
  | none => none
  | some x16 => some (.inl ((Ak (Ak a0 (AG (IntKind.wrap .i64 (a2 + a3))) (AT a0 (AG (IntKind.wrap .i64 (a2 + (IntKind.wrap .i64 ((IntKind.wrap .i64 (2 * a3)) + 1))))) z)) (AG (IntKind.wrap .i64 (a2 + (IntKind.wrap .i64 ((IntKind.wrap .i64 (2 * a3)) + 1))))) (AT a0 (AG (IntKind.wrap .i64 (a2 + a3))) z)), a1, a2, (IntKind.wrap .i64 ((IntKind.wrap .i64 (2 * a3)) + 1)), ()))
 | false => match idx a0 (IntKind.wrap .i64 (a2 + a3)) with
 | none => none
 | some x17 => match idx a0 (IntKind.wrap .i64 (a2 + (IntKind.wrap .i64 ((IntKind.wrap .i64 (2 * a3)) + 1)))) with
 | none => none
 | some x18 => match c ((AT a0 (AG (IntKind.wrap .i64 (a2 + a3))) z), (AT a0 (AG (IntKind.wrap .i64 (a2 + (IntKind.wrap .i64 ((IntKind.wrap .i64 (2 * a3)) + 1))))) z), ()) with
 | none => none
 | some (y19, _) => match (!(ilt y19 0)) with
 | true => some (.inr (.inr (.inl (a0, ()))))
 | false => match idx a0 (IntKind.wrap .i64 (a2 + (IntKind.wrap .i64 ((IntKind.wrap .i64 (2 * a3)) + 1)))) with
 | none => none
 | some x20 => match idx a0 (IntKind.wrap .i64 (a2 + a3)) with
 | none => none
 | some x21 => match idx a0 (IntKind.wrap .i64 (a2 + a3)) with
 | none => none
 | some x22 => match idx (Ak a0 (AG (IntKind.wrap .i64 (a2 + a3))) (AT a0 (AG (IntKind.wrap .i64 (a2 + (IntKind.wrap .i64 ((IntKind.wrap .i64 (2 * a3)) + 1))))) z)) (IntKind.wrap .i64 (a2 + (IntKind.wrap .i64 ((IntKind.wrap .i64 (2 * a3)) + 1)))) with
 | none => none
 | some x23 => some (.inl ((Ak (Ak a0 (AG (IntKind.wrap .i64 (a2 + a3))) (AT a0 (AG (IntKind.wrap .i64 (a2 + (IntKind.wrap .i64 ((IntKind.wrap .i64 (2 * a3)) + 1))))) z)) (AG (IntKind.wrap .i64 (a2 + (IntKind.wrap .i64 ((IntKind.wrap .i64 (2 * a3)) + 1))))) (AT a0 (AG (IntKind.wrap .i64 (a2 + a3))) z)), a1, a2, (IntKind.wrap .i64 ((IntKind.wrap .i64 (2 * a3)) + 1)), ()))
def Sf [Lk] {α : Type} (z : α) (c : α × α × Unit → Option U8) : (List α × Int × Int × Int × Unit) → Option ((List α × Unit)) := fun (a0, a1, a2, a3, _) =>
 match AR (Je z c) many (a0, a2, a3, a1, ()) with
 | none => none
 | some r => match r with
 | .inl (o0, _) => some (o0, ())
 | .inr r => match r with
 | .inl (o1, _) => some (o1, ())
 | .inr _ => none
def AFl [Lk] {α : Type} (z : α) (c : α × α × Unit → Option U8) (v : (List α × Int × Int × Int × Unit)) : Option ((List α × Unit)) := Lk.f ((Sf z c) v)
theorem ASK {α : Type} (z : α) (c : α × α × Unit → Option U8) (v : (List α × Int × Int × Int × Unit)) : (AFl z c) v = (Sf z c) v := AK _
def J5 [Lk] {α : Type} (z : α) (c : α × α × Unit → Option U8) : (List α × Int × Int × Int × Unit) → Option ((List α × Int × Int × Int × Unit) ⊕ (List α × Unit) ⊕ Unit) := fun (a0, a1, a2, a3, _) =>
 match (ile 0 a3) with
 | true => match idx a0 (IntKind.wrap .i64 (a1 + a3)) with
  | none => none
  | some x0 => match idx a0 a1 with
  | none => none
  | some x1 => match idx a0 a1 with
  | none => none
  | some x2 => match idx (Ak a0 (AG a1) (AT a0 (AG (IntKind.wrap .i64 (a1 + a3))) z)) (IntKind.wrap .i64 (a1 + a3)) with
  | none => none
  | some x3 => match (AFl z c) ((Ak (Ak a0 (AG a1) (AT a0 (AG (IntKind.wrap .i64 (a1 + a3))) z)) (AG (IntKind.wrap .i64 (a1 + a3))) (AT a0 (AG a1) z)), a2, a3, a1, ()) with
  | none => none
  | some (y4, _) => some (.inl (y4, a1, a2, (IntKind.wrap .i64 (a3 - 1)), ()))
 | false => some (.inr (.inl (a0, ())))
def J6 [Lk] {α : Type} (z : α) (c : α × α × Unit → Option U8) : (List α × Int × Int × Int × Int × Unit) → Option ((List α × Int × Int × Int × Int × Unit) ⊕ (List α × Int × Int × Int × Unit) ⊕ Unit) := fun (a0, a1, a2, a3, a4, _) =>
 match (ile 0 a4) with
 | true => match (AFl z c) (a0, a4, a3, a1, ()) with
  | none => none
  | some (y0, _) => some (.inl (y0, a1, a2, a3, (IntKind.wrap .i64 (a4 - 1)), ()))
 | false => some (.inr (.inl (a0, a1, a2, a3, ())))
def Sr [Lk] {α : Type} (z : α) (c : α × α × Unit → Option U8) : (List α × Int × Int × Unit) → Option ((List α × Unit)) := fun (a0, a1, a2, _) =>
 match quo? .i64 (IntKind.wrap .i64 ((IntKind.wrap .i64 (a2 - a1)) - 1)) 2 with
 | none => none
 | some x0 => match AR (J6 z c) many (a0, a1, 0, (IntKind.wrap .i64 (a2 - a1)), x0, ()) with
 | none => none
 | some r => match r with
 | .inl (o1, o2, o3, o4, _) => match AR (J5 z c) many (o1, o2, o3, (IntKind.wrap .i64 (o4 - 1)), ()) with
  | none => none
  | some r => match r with
  | .inl (o5, _) => some (o5, ())
  | .inr _ => none
 | .inr _ => none
def ANb [Lk] {α : Type} (z : α) (c : α × α × Unit → Option U8) (v : (List α × Int × Int × Unit)) : Option ((List α × Unit)) := Lk.f ((Sr z c) v)
theorem ATk {α : Type} (z : α) (c : α × α × Unit → Option U8) (v : (List α × Int × Int × Unit)) : (ANb z c) v = (Sr z c) v := AK _
def Fx [Lk] {α : Type} (z : α) (c : α × α × Unit → Option U8) : (List α × Int × Int × Int × Int × Int × Unit) → Option ((List α × Int × Int × Int × Int × Int × Unit) ⊕ (List α × Unit) ⊕ Unit) := fun (a0, a1, a2, a3, a4, a5, _) =>
 match quo? .i64 a2 4 with
 | none => none
 | some x0 => match (ile a5 (IntKind.wrap .i64 ((IntKind.wrap .i64 (a1 + (IntKind.wrap .i64 (x0 * 2)))) + 1))) with
 | true => match xorNext (a3, ()) with
  | none => none
  | some (y1, y2, _) => match (ile a2 (IntKind.wrap .i64 (IntKind.wrap .u64 ((BitVec.ofInt (IntKind.bits .u64) y2 &&& BitVec.ofInt (IntKind.bits .u64) (IntKind.wrap .u64 (a4 - 1))).toNat)))) with
  | true => match idx a0 (IntKind.wrap .i64 (a1 + (IntKind.wrap .i64 ((IntKind.wrap .i64 (IntKind.wrap .u64 ((BitVec.ofInt (IntKind.bits .u64) y2 &&& BitVec.ofInt (IntKind.bits .u64) (IntKind.wrap .u64 (a4 - 1))).toNat))) - a2)))) with
   | none => none
   | some x3 => match idx a0 a5 with
   | none => none
   | some x4 => match idx a0 a5 with
   | none => none
   | some x5 => match idx (Ak a0 (AG a5) (AT a0 (AG (IntKind.wrap .i64 (a1 + (IntKind.wrap .i64 ((IntKind.wrap .i64 (IntKind.wrap .u64 ((BitVec.ofInt (IntKind.bits .u64) y2 &&& BitVec.ofInt (IntKind.bits .u64) (IntKind.wrap .u64 (a4 - 1))).toNat))) - a2))))) z)) (IntKind.wrap .i64 (a1 + (IntKind.wrap .i64 ((IntKind.wrap .i64 (IntKind.wrap .u64 ((BitVec.ofInt (IntKind.bits .u64) y2 &&& BitVec.ofInt (IntKind.bits .u64) (IntKind.wrap .u64 (a4 - 1))).toNat))) - a2)))) with
   | none => none
   | some x6 => some (.inl ((Ak (Ak a0 (AG a5) (AT a0 (AG (IntKind.wrap .i64 (a1 + (IntKind.wrap .i64 ((IntKind.wrap .i64 (IntKind.wrap .u64 ((BitVec.ofInt (IntKind.bits .u64) y2 &&& BitVec.ofInt (IntKind.bits .u64) (IntKind.wrap .u64 (a4 - 1))).toNat))) - a2))))) z)) (AG (IntKind.wrap .i64 (a1 + (IntKind.wrap .i64 ((IntKind.wrap .i64 (IntKind.wrap .u64 ((BitVec.ofInt (IntKind.bits .u64) y2 &&& BitVec.ofInt (IntKind.bits .u64) (IntKind.wrap .u64 (a4 - 1))).toNat))) - a2))))) (AT a0 (AG a5) z)), a1, a2, y1, a4, (IntKind.wrap .i64 (a5 + 1)), ()))
  | false => match idx a0 (IntKind.wrap .i64 (a1 + (IntKind.wrap .i64 (IntKind.wrap .u64 ((BitVec.ofInt (IntKind.bits .u64) y2 &&& BitVec.ofInt (IntKind.bits .u64) (IntKind.wrap .u64 (a4 - 1))).toNat))))) with
  | none => none
  | some x7 => match idx a0 a5 with
  | none => none
  | some x8 => match idx a0 a5 with
  | none => none
  | some x9 => match idx (Ak a0 (AG a5) (AT a0 (AG (IntKind.wrap .i64 (a1 + (IntKind.wrap .i64 (IntKind.wrap .u64 ((BitVec.ofInt (IntKind.bits .u64) y2 &&& BitVec.ofInt (IntKind.bits .u64) (IntKind.wrap .u64 (a4 - 1))).toNat)))))) z)) (IntKind.wrap .i64 (a1 + (IntKind.wrap .i64 (IntKind.wrap .u64 ((BitVec.ofInt (IntKind.bits .u64) y2 &&& BitVec.ofInt (IntKind.bits .u64) (IntKind.wrap .u64 (a4 - 1))).toNat))))) with
  | none => none
  | some x10 => some (.inl ((Ak (Ak a0 (AG a5) (AT a0 (AG (IntKind.wrap .i64 (a1 + (IntKind.wrap .i64 (IntKind.wrap .u64 ((BitVec.ofInt (IntKind.bits .u64) y2 &&& BitVec.ofInt (IntKind.bits .u64) (IntKind.wrap .u64 (a4 - 1))).toNat)))))) z)) (AG (IntKind.wrap .i64 (a1 + (IntKind.wrap .i64 (IntKind.wrap .u64 ((BitVec.ofInt (IntKind.bits .u64) y2 &&& BitVec.ofInt (IntKind.bits .u64) (IntKind.wrap .u64 (a4 - 1))).toNat)))))) (AT a0 (AG a5) z)), a1, a2, y1, a4, (IntKind.wrap .i64 (a5 + 1)), ()))
 | false => some (.inr (.inl (a0, ())))
def Of [Lk] {α : Type} (z : α) (c : α × α × Unit → Option U8) : (List α × Int × Int × Unit) → Option ((List α × Unit)) := fun (a0, a1, a2, _) =>
 match (ile 8 (IntKind.wrap .i64 (a2 - a1))) with
 | true => match Nq ((IntKind.wrap .i64 (a2 - a1)), ()) with
  | none => none
  | some (y0, _) => match quo? .i64 (IntKind.wrap .i64 (a2 - a1)) 4 with
  | none => none
  | some x1 => match AR (Fx z c) many (a0, a1, (IntKind.wrap .i64 (a2 - a1)), (IntKind.wrap .u64 (IntKind.wrap .i64 (a2 - a1))), y0, (IntKind.wrap .i64 ((IntKind.wrap .i64 (a1 + (IntKind.wrap .i64 (x1 * 2)))) - 1)), ()) with
  | none => none
  | some r => match r with
  | .inl (o2, _) => some (o2, ())
  | .inr _ => none
 | false => some (a0, ())
def AD9 [Lk] {α : Type} (z : α) (c : α × α × Unit → Option U8) (v : (List α × Int × Int × Unit)) : Option ((List α × Unit)) := Lk.f ((Of z c) v)
theorem AQw {α : Type} (z : α) (c : α × α × Unit → Option U8) (v : (List α × Int × Int × Unit)) : (AD9 z c) v = (Of z c) v := AK _
def Ku [Lk] {α : Type} (z : α) (c : α × α × Unit → Option U8) : (List α × Int × Int × Int × Unit) → Option ((List α × Int × Int × Int × Unit)) := fun (a0, a1, a2, a3, _) =>
 match idx a0 a2 with
 | none => none
 | some x0 => match idx a0 a1 with
 | none => none
 | some x1 => match c ((AT a0 (AG a2) z), (AT a0 (AG a1) z), ()) with
 | none => none
 | some (y2, _) => match (ilt y2 0) with
 | true => some (a0, (IntKind.wrap .i64 (a3 + 1)), a2, a1, ())
 | false => some (a0, a3, a1, a2, ())
def Kv [Lk] {α : Type} (z : α) (c : α × α × Unit → Option U8) (v : (List α × Int × Int × Int × Unit)) : Option ((List α × Int × Int × Int × Unit)) := Lk.f ((Ku z c) v)
theorem AKR {α : Type} (z : α) (c : α × α × Unit → Option U8) (v : (List α × Int × Int × Int × Unit)) : (Kv z c) v = (Ku z c) v := AK _
def Ky [Lk] {α : Type} (z : α) (c : α × α × Unit → Option U8) : (List α × Int × Int × Int × Int × Unit) → Option ((List α × Int × Int × Unit)) := fun (a0, a1, a2, a3, a4, _) =>
 match (Kv z c) (a0, a1, a2, a4, ()) with
 | none => none
 | some (y0, y1, y2, y3, _) => match (Kv z c) (y0, y3, a3, y1, ()) with
 | none => none
 | some (y4, y5, y6, y7, _) => match (Kv z c) (y4, y2, y6, y5, ()) with
 | none => none
 | some (y8, y9, y10, y11, _) => some (y8, y9, y11, ())
def Kz [Lk] {α : Type} (z : α) (c : α × α × Unit → Option U8) (v : (List α × Int × Int × Int × Int × Unit)) : Option ((List α × Int × Int × Unit)) := Lk.f ((Ky z c) v)
theorem AKo {α : Type} (z : α) (c : α × α × Unit → Option U8) (v : (List α × Int × Int × Int × Int × Unit)) : (Kz z c) v = (Ky z c) v := AK _
def K0 [Lk] {α : Type} (z : α) (c : α × α × Unit → Option U8) : (List α × Int × Int × Unit) → Option ((List α × Int × Int × Unit)) := fun (a0, a1, a2, _) =>
 match (Kz z c) (a0, (IntKind.wrap .i64 (a1 - 1)), a1, (IntKind.wrap .i64 (a1 + 1)), a2, ()) with
 | none => none
 | some (y0, y1, y2, _) => some (y0, y1, y2, ())
def K1 [Lk] {α : Type} (z : α) (c : α × α × Unit → Option U8) (v : (List α × Int × Int × Unit)) : Option ((List α × Int × Int × Unit)) := Lk.f ((K0 z c) v)
theorem AKq {α : Type} (z : α) (c : α × α × Unit → Option U8) (v : (List α × Int × Int × Unit)) : (K1 z c) v = (K0 z c) v := AK _
def Nh [Lk] {α : Type} (z : α) (c : α × α × Unit → Option U8) : (List α × Int × Int × Unit) → Option ((List α × Int × Int × Unit)) := fun (a0, a1, a2, _) =>
 match quo? .i64 (IntKind.wrap .i64 (a2 - a1)) 4 with
 | none => none
 | some x0 => match quo? .i64 (IntKind.wrap .i64 (a2 - a1)) 4 with
 | none => none
 | some x1 => match quo? .i64 (IntKind.wrap .i64 (a2 - a1)) 4 with
 | none => none
 | some x2 => match (ile 8 (IntKind.wrap .i64 (a2 - a1))) with
 | true => match (ile 50 (IntKind.wrap .i64 (a2 - a1))) with
  | true => match (K1 z c) (a0, (IntKind.wrap .i64 (a1 + (IntKind.wrap .i64 (x0 * 1)))), 0, ()) with
   | none => none
   | some (y3, y4, y5, _) => match (K1 z c) (y3, (IntKind.wrap .i64 (a1 + (IntKind.wrap .i64 (x1 * 2)))), y4, ()) with
   | none => none
   | some (y6, y7, y8, _) => match (K1 z c) (y6, (IntKind.wrap .i64 (a1 + (IntKind.wrap .i64 (x2 * 3)))), y7, ()) with
   | none => none
   | some (y9, y10, y11, _) => match (Kz z c) (y9, y5, y8, y11, y10, ()) with
   | none => none
   | some (y12, y13, y14, _) => match (ieq y13 0) with
   | true => some (y12, y14, 1, ())
   | false => match (ieq y13 12) with
   | true => some (y12, y14, 2, ())
   | false => some (y12, y14, 0, ())
  | false => match (Kz z c) (a0, (IntKind.wrap .i64 (a1 + (IntKind.wrap .i64 (x0 * 1)))), (IntKind.wrap .i64 (a1 + (IntKind.wrap .i64 (x1 * 2)))), (IntKind.wrap .i64 (a1 + (IntKind.wrap .i64 (x2 * 3)))), 0, ()) with
  | none => none
  | some (y15, y16, y17, _) => match (ieq y16 0) with
  | true => some (y15, y17, 1, ())
  | false => match (ieq y16 12) with
  | true => some (y15, y17, 2, ())
  | false => some (y15, y17, 0, ())
 | false => match (ieq 0 0) with
 | true => some (a0, (IntKind.wrap .i64 (a1 + (IntKind.wrap .i64 (x1 * 2)))), 1, ())
 | false => match (ieq 0 12) with
 | true => some (a0, (IntKind.wrap .i64 (a1 + (IntKind.wrap .i64 (x1 * 2)))), 2, ())
 | false => some (a0, (IntKind.wrap .i64 (a1 + (IntKind.wrap .i64 (x1 * 2)))), 0, ())
def ACS [Lk] {α : Type} (z : α) (c : α × α × Unit → Option U8) (v : (List α × Int × Int × Unit)) : Option ((List α × Int × Int × Unit)) := Lk.f ((Nh z c) v)
theorem APM {α : Type} (z : α) (c : α × α × Unit → Option U8) (v : (List α × Int × Int × Unit)) : (ACS z c) v = (Nh z c) v := AK _
def Si [Lk] {α : Type} (z : α) (c : α × α × Unit → Option U8) : (List α × Int × Int × Unit) → Option ((List α × Int × Int × Unit) ⊕ (List α × Unit) ⊕ Unit) := fun (a0, a1, a2, _) =>
 match (ilt a1 a2) with
 | true => match idx a0 a2 with
  | none => none
  | some x0 => match idx a0 a1 with
  | none => none
  | some x1 => match idx a0 a1 with
  | none => none
  | some x2 => match idx (Ak a0 (AG a1) (AT a0 (AG a2) z)) a2 with
  | none => none
  | some x3 => some (.inl ((Ak (Ak a0 (AG a1) (AT a0 (AG a2) z)) (AG a2) (AT a0 (AG a1) z)), (IntKind.wrap .i64 (a1 + 1)), (IntKind.wrap .i64 (a2 - 1)), ()))
 | false => some (.inr (.inl (a0, ())))
def ACJ [Lk] {α : Type} (z : α) (c : α × α × Unit → Option U8) : (List α × Int × Int × Unit) → Option ((List α × Unit)) := fun (a0, a1, a2, _) =>
 match AR (Si z c) many (a0, a1, (IntKind.wrap .i64 (a2 - 1)), ()) with
 | none => none
 | some r => match r with
 | .inl (o0, _) => some (o0, ())
 | .inr _ => none
def AVT [Lk] {α : Type} (z : α) (c : α × α × Unit → Option U8) (v : (List α × Int × Int × Unit)) : Option ((List α × Unit)) := Lk.f ((ACJ z c) v)
theorem AVS {α : Type} (z : α) (c : α × α × Unit → Option U8) (v : (List α × Int × Int × Unit)) : (AVT z c) v = (ACJ z c) v := AK _
def E2 [Lk] {α : Type} (z : α) (c : α × α × Unit → Option U8) : (List α × Int × Int × Int × Int × Int × Unit) → Option ((List α × Int × Int × Int × Int × Int × Unit) ⊕ (List α × Int × Int × Int × Int × Unit) ⊕ Unit) := fun (a0, a1, a2, a3, a4, a5, _) =>
 match (ilt a5 a2) with
 | true => match idx a0 a5 with
  | none => none
  | some x0 => match idx a0 (IntKind.wrap .i64 (a5 - 1)) with
  | none => none
  | some x1 => match c ((AT a0 (AG a5) z), (AT a0 (AG (IntKind.wrap .i64 (a5 - 1))) z), ()) with
  | none => none
  | some (y2, _) => match (!(ilt y2 0)) with
  | true => some (.inr (.inl (a0, a1, a2, a3, a4, ())))
  | false => match idx a0 (IntKind.wrap .i64 (a5 - 1)) with
  | none => none
  | some x3 => match idx a0 a5 with
  | none => none
  | some x4 => match idx a0 a5 with
  | none => none
  | some x5 => match idx (Ak a0 (AG a5) (AT a0 (AG (IntKind.wrap .i64 (a5 - 1))) z)) (IntKind.wrap .i64 (a5 - 1)) with
  | none => none
  | some x6 => some (.inl ((Ak (Ak a0 (AG a5) (AT a0 (AG (IntKind.wrap .i64 (a5 - 1))) z)) (AG (IntKind.wrap .i64 (a5 - 1))) (AT a0 (AG a5) z)), a1, a2, a3, a4, (IntKind.wrap .i64 (a5 + 1)), ()))
 | false => some (.inr (.inl (a0, a1, a2, a3, a4, ())))
def E3 [Lk] {α : Type} (z : α) (c : α × α × Unit → Option U8) : (List α × Int × Int × Int × Int × Int × Unit) → Option ((List α × Int × Int × Int × Int × Int × Unit) ⊕ (List α × Int × Int × Int × Int × Unit) ⊕ Unit) := fun (a0, a1, a2, a3, a4, a5, _) =>
 match (ile 1 a5) with
 | true => match idx a0 a5 with
  | none => none
  | some x0 => match idx a0 (IntKind.wrap .i64 (a5 - 1)) with
  | none => none
  | some x1 => match c ((AT a0 (AG a5) z), (AT a0 (AG (IntKind.wrap .i64 (a5 - 1))) z), ()) with
  | none => none
  | some (y2, _) => match (!(ilt y2 0)) with
  | true => some (.inr (.inl (a0, a1, a2, a3, a4, ())))
  | false => match idx a0 (IntKind.wrap .i64 (a5 - 1)) with
  | none => none
  | some x3 => match idx a0 a5 with
  | none => none
  | some x4 => match idx a0 a5 with
  | none => none
  | some x5 => match idx (Ak a0 (AG a5) (AT a0 (AG (IntKind.wrap .i64 (a5 - 1))) z)) (IntKind.wrap .i64 (a5 - 1)) with
  | none => none
  | some x6 => some (.inl ((Ak (Ak a0 (AG a5) (AT a0 (AG (IntKind.wrap .i64 (a5 - 1))) z)) (AG (IntKind.wrap .i64 (a5 - 1))) (AT a0 (AG a5) z)), a1, a2, a3, a4, (IntKind.wrap .i64 (a5 - 1)), ()))
 | false => some (.inr (.inl (a0, a1, a2, a3, a4, ())))
def Gu [Lk] {α : Type} (z : α) (c : α × α × Unit → Option U8) : (List α × Int × Int × Int × Int × Unit) → Option ((List α × Int × Int × Int × Int × Unit) ⊕ (List α × Int × Int × Int × Int × Unit) ⊕ Unit) := fun (a0, a1, a2, a3, a4, _) =>
 match (ilt a3 a2) with
 | true => match idx a0 a3 with
  | none => none
  | some x0 => match idx a0 (IntKind.wrap .i64 (a3 - 1)) with
  | none => none
  | some x1 => match c ((AT a0 (AG a3) z), (AT a0 (AG (IntKind.wrap .i64 (a3 - 1))) z), ()) with
  | none => none
  | some (y2, _) => match (!(ilt y2 0)) with
  | true => some (.inl (a0, a1, a2, (IntKind.wrap .i64 (a3 + 1)), a4, ()))
  | false => some (.inr (.inl (a0, a1, a2, a3, a4, ())))
 | false => some (.inr (.inl (a0, a1, a2, a3, a4, ())))
def CA [Lk] {α : Type} (z : α) (c : α × α × Unit → Option U8) : (List α × Int × Int × Int × Int × Unit) → Option ((List α × Int × Int × Int × Int × Unit) ⊕ (List α × Bool × Unit) ⊕ (List α × Unit) ⊕ Unit) := fun (a0, a1, a2, a3, a4, _) =>
 match (ilt a4 5) with
 | true => match AR (Gu z c) many (a0, a1, a2, a3, a4, ()) with
  | none => none
  | some r => match r with
  | .inl (o0, o1, o2, o3, o4, _) => match (ieq o3 o2) with
   | true => some (.inr (.inl (o0, true, ())))
   | false => match (ilt (IntKind.wrap .i64 (o2 - o1)) 50) with
   | true => some (.inr (.inl (o0, false, ())))
   | false => match idx o0 (IntKind.wrap .i64 (o3 - 1)) with
   | none => none
   | some x5 => match idx o0 o3 with
   | none => none
   | some x6 => match idx o0 o3 with
   | none => none
   | some x7 => match idx (Ak o0 (AG o3) (AT o0 (AG (IntKind.wrap .i64 (o3 - 1))) z)) (IntKind.wrap .i64 (o3 - 1)) with
   | none => none
   | some x8 => match (ile 2 (IntKind.wrap .i64 (o3 - o1))) with
   | true => match AR (E3 z c) many ((Ak (Ak o0 (AG o3) (AT o0 (AG (IntKind.wrap .i64 (o3 - 1))) z)) (AG (IntKind.wrap .i64 (o3 - 1))) (AT o0 (AG o3) z)), o1, o2, o3, o4, (IntKind.wrap .i64 (o3 - 1)), ()) with
    | none => none
    | some r => match r with
    | .inl (o9, o10, o11, o12, o13, _) => match (ile 2 (IntKind.wrap .i64 (o11 - o12))) with
     | true => match AR (E2 z c) many (o9, o10, o11, o12, o13, (IntKind.wrap .i64 (o12 + 1)), ()) with
      | none => none
      | some r => match r with
      | .inl (o14, o15, o16, o17, o18, _) => some (.inl (o14, o15, o16, o17, (IntKind.wrap .i64 (o18 + 1)), ()))
      | .inr _ => none
     | false => some (.inl (o9, o10, o11, o12, (IntKind.wrap .i64 (o13 + 1)), ()))
    | .inr _ => none
   | false => match (ile 2 (IntKind.wrap .i64 (o2 - o3))) with
   | true => match AR (E2 z c) many ((Ak (Ak o0 (AG o3) (AT o0 (AG (IntKind.wrap .i64 (o3 - 1))) z)) (AG (IntKind.wrap .i64 (o3 - 1))) (AT o0 (AG o3) z)), o1, o2, o3, o4, (IntKind.wrap .i64 (o3 + 1)), ()) with
    | none => none
    | some r => match r with
    | .inl (o19, o20, o21, o22, o23, _) => some (.inl (o19, o20, o21, o22, (IntKind.wrap .i64 (o23 + 1)), ()))
    | .inr _ => none
   | false => some (.inl ((Ak (Ak o0 (AG o3) (AT o0 (AG (IntKind.wrap .i64 (o3 - 1))) z)) (AG (IntKind.wrap .i64 (o3 - 1))) (AT o0 (AG o3) z)), o1, o2, o3, (IntKind.wrap .i64 (o4 + 1)), ()))
  | .inr _ => none
 | false => some (.inr (.inr (.inl (a0, ()))))
def IV [Lk] {α : Type} (z : α) (c : α × α × Unit → Option U8) : (List α × Int × Int × Unit) → Option ((List α × Bool × Unit)) := fun (a0, a1, a2, _) =>
 match AR (CA z c) many (a0, a1, a2, (IntKind.wrap .i64 (a1 + 1)), 0, ()) with
 | none => none
 | some r => match r with
 | .inl (o0, o1, _) => some (o0, o1, ())
 | .inr r => match r with
 | .inl (o2, _) => some (o2, false, ())
 | .inr _ => none
def Nk [Lk] {α : Type} (z : α) (c : α × α × Unit → Option U8) (v : (List α × Int × Int × Unit)) : Option ((List α × Bool × Unit)) := Lk.f ((IV z c) v)
theorem AGj {α : Type} (z : α) (c : α × α × Unit → Option U8) (v : (List α × Int × Int × Unit)) : (Nk z c) v = (IV z c) v := AK _
def IW [Lk] {α : Type} (z : α) (c : α × α × Unit → Option U8) : (List α × Int × Int × Int × Unit) → Option ((List α × Int × Int × Int × Unit) ⊕ (List α × Int × Int × Int × Unit) ⊕ Unit) := fun (a0, a1, a2, a3, _) =>
 match (ile a2 a3) with
 | true => match idx a0 a1 with
  | none => none
  | some x0 => match idx a0 a3 with
  | none => none
  | some x1 => match c ((AT a0 (AG a1) z), (AT a0 (AG a3) z), ()) with
  | none => none
  | some (y2, _) => match (ilt y2 0) with
  | true => some (.inl (a0, a1, a2, (IntKind.wrap .i64 (a3 - 1)), ()))
  | false => some (.inr (.inl (a0, a1, a2, a3, ())))
 | false => some (.inr (.inl (a0, a1, a2, a3, ())))
def IX [Lk] {α : Type} (z : α) (c : α × α × Unit → Option U8) : (List α × Int × Int × Int × Unit) → Option ((List α × Int × Int × Int × Unit) ⊕ (List α × Int × Int × Int × Unit) ⊕ Unit) := fun (a0, a1, a2, a3, _) =>
 match (ile a2 a3) with
 | true => match idx a0 a1 with
  | none => none
  | some x0 => match idx a0 a2 with
  | none => none
  | some x1 => match c ((AT a0 (AG a1) z), (AT a0 (AG a2) z), ()) with
  | none => none
  | some (y2, _) => match (!(ilt y2 0)) with
  | true => some (.inl (a0, a1, (IntKind.wrap .i64 (a2 + 1)), a3, ()))
  | false => some (.inr (.inl (a0, a1, a2, a3, ())))
 | false => some (.inr (.inl (a0, a1, a2, a3, ())))
def IY [Lk] {α : Type} (z : α) (c : α × α × Unit → Option U8) : (List α × Int × Int × Int × Unit) → Option ((List α × Int × Int × Int × Unit) ⊕ (List α × Int × Unit) ⊕ Unit) := fun (a0, a1, a2, a3, _) =>
 match AR (IX z c) many (a0, a1, a2, a3, ()) with
 | none => none
 | some r => match r with
 | .inl (o0, o1, o2, o3, _) => match AR (IW z c) many (o0, o1, o2, o3, ()) with
  | none => none
  | some r => match r with
  | .inl (o4, o5, o6, o7, _) => match (ilt o7 o6) with
   | true => some (.inr (.inl (o4, o6, ())))
   | false => match idx o4 o7 with
   | none => none
   | some x8 => match idx o4 o6 with
   | none => none
   | some x9 => match idx o4 o6 with
   | none => none
   | some x10 => match idx (Ak o4 (AG o6) (AT o4 (AG o7) z)) o7 with
   | none => none
   | some x11 => some (.inl ((Ak (Ak o4 (AG o6) (AT o4 (AG o7) z)) (AG o7) (AT o4 (AG o6) z)), o5, (IntKind.wrap .i64 (o6 + 1)), (IntKind.wrap .i64 (o7 - 1)), ()))
  | .inr _ => none
 | .inr _ => none
def Ks [Lk] {α : Type} (z : α) (c : α × α × Unit → Option U8) : (List α × Int × Int × Int × Unit) → Option ((List α × Int × Unit)) := fun (a0, a1, a2, a3, _) =>
 match idx a0 a3 with
 | none => none
 | some x0 => match idx a0 a1 with
 | none => none
 | some x1 => match idx a0 a1 with
 | none => none
 | some x2 => match idx (Ak a0 (AG a1) (AT a0 (AG a3) z)) a3 with
 | none => none
 | some x3 => match AR (IY z c) many ((Ak (Ak a0 (AG a1) (AT a0 (AG a3) z)) (AG a3) (AT a0 (AG a1) z)), a1, (IntKind.wrap .i64 (a1 + 1)), (IntKind.wrap .i64 (a2 - 1)), ()) with
 | none => none
 | some r => match r with
 | .inl (o4, o5, _) => some (o4, o5, ())
 | .inr _ => none
def Sk [Lk] {α : Type} (z : α) (c : α × α × Unit → Option U8) (v : (List α × Int × Int × Int × Unit)) : Option ((List α × Int × Unit)) := Lk.f ((Ks z c) v)
theorem AKP {α : Type} (z : α) (c : α × α × Unit → Option U8) (v : (List α × Int × Int × Int × Unit)) : (Sk z c) v = (Ks z c) v := AK _
def Nl [Lk] {α : Type} (z : α) (c : α × α × Unit → Option U8) : (List α × Int × Int × Int × Unit) → Option ((List α × Int × Int × Int × Unit) ⊕ (List α × Int × Int × Int × Unit) ⊕ Unit) := fun (a0, a1, a2, a3, _) =>
 match (ile a2 a3) with
 | true => match idx a0 a3 with
  | none => none
  | some x0 => match idx a0 a1 with
  | none => none
  | some x1 => match c ((AT a0 (AG a3) z), (AT a0 (AG a1) z), ()) with
  | none => none
  | some (y2, _) => match (!(ilt y2 0)) with
  | true => some (.inl (a0, a1, a2, (IntKind.wrap .i64 (a3 - 1)), ()))
  | false => some (.inr (.inl (a0, a1, a2, a3, ())))
 | false => some (.inr (.inl (a0, a1, a2, a3, ())))
def Nm [Lk] {α : Type} (z : α) (c : α × α × Unit → Option U8) : (List α × Int × Int × Int × Unit) → Option ((List α × Int × Int × Int × Unit) ⊕ (List α × Int × Int × Int × Unit) ⊕ Unit) := fun (a0, a1, a2, a3, _) =>
 match (ile a2 a3) with
 | true => match idx a0 a2 with
  | none => none
  | some x0 => match idx a0 a1 with
  | none => none
  | some x1 => match c ((AT a0 (AG a2) z), (AT a0 (AG a1) z), ()) with
  | none => none
  | some (y2, _) => match (ilt y2 0) with
  | true => some (.inl (a0, a1, (IntKind.wrap .i64 (a2 + 1)), a3, ()))
  | false => some (.inr (.inl (a0, a1, a2, a3, ())))
 | false => some (.inr (.inl (a0, a1, a2, a3, ())))
def Nn [Lk] {α : Type} (z : α) (c : α × α × Unit → Option U8) : (List α × Int × Int × Int × Unit) → Option ((List α × Int × Int × Int × Unit) ⊕ (List α × Int × Int × Unit) ⊕ Unit) := fun (a0, a1, a2, a3, _) =>
 match AR (Nm z c) many (a0, a1, a2, a3, ()) with
 | none => none
 | some r => match r with
 | .inl (o0, o1, o2, o3, _) => match AR (Nl z c) many (o0, o1, o2, o3, ()) with
  | none => none
  | some r => match r with
  | .inl (o4, o5, o6, o7, _) => match (ilt o7 o6) with
   | true => some (.inr (.inl (o4, o5, o7, ())))
   | false => match idx o4 o7 with
   | none => none
   | some x8 => match idx o4 o6 with
   | none => none
   | some x9 => match idx o4 o6 with
   | none => none
   | some x10 => match idx (Ak o4 (AG o6) (AT o4 (AG o7) z)) o7 with
   | none => none
   | some x11 => some (.inl ((Ak (Ak o4 (AG o6) (AT o4 (AG o7) z)) (AG o7) (AT o4 (AG o6) z)), o5, (IntKind.wrap .i64 (o6 + 1)), (IntKind.wrap .i64 (o7 - 1)), ()))
  | .inr _ => none
 | .inr _ => none
def No [Lk] {α : Type} (z : α) (c : α × α × Unit → Option U8) : (List α × Int × Int × Int × Unit) → Option ((List α × Int × Int × Int × Unit) ⊕ (List α × Int × Int × Int × Unit) ⊕ Unit) := fun (a0, a1, a2, a3, _) =>
 match (ile a2 a3) with
 | true => match idx a0 a3 with
  | none => none
  | some x0 => match idx a0 a1 with
  | none => none
  | some x1 => match c ((AT a0 (AG a3) z), (AT a0 (AG a1) z), ()) with
  | none => none
  | some (y2, _) => match (!(ilt y2 0)) with
  | true => some (.inl (a0, a1, a2, (IntKind.wrap .i64 (a3 - 1)), ()))
  | false => some (.inr (.inl (a0, a1, a2, a3, ())))
 | false => some (.inr (.inl (a0, a1, a2, a3, ())))
def Np [Lk] {α : Type} (z : α) (c : α × α × Unit → Option U8) : (List α × Int × Int × Int × Unit) → Option ((List α × Int × Int × Int × Unit) ⊕ (List α × Int × Int × Int × Unit) ⊕ Unit) := fun (a0, a1, a2, a3, _) =>
 match (ile a2 a3) with
 | true => match idx a0 a2 with
  | none => none
  | some x0 => match idx a0 a1 with
  | none => none
  | some x1 => match c ((AT a0 (AG a2) z), (AT a0 (AG a1) z), ()) with
  | none => none
  | some (y2, _) => match (ilt y2 0) with
  | true => some (.inl (a0, a1, (IntKind.wrap .i64 (a2 + 1)), a3, ()))
  | false => some (.inr (.inl (a0, a1, a2, a3, ())))
 | false => some (.inr (.inl (a0, a1, a2, a3, ())))
def Sj [Lk] {α : Type} (z : α) (c : α × α × Unit → Option U8) : (List α × Int × Int × Int × Unit) → Option ((List α × Int × Bool × Unit)) := fun (a0, a1, a2, a3, _) =>
 match idx a0 a3 with
 | none => none
 | some x0 => match idx a0 a1 with
 | none => none
 | some x1 => match idx a0 a1 with
 | none => none
 | some x2 => match idx (Ak a0 (AG a1) (AT a0 (AG a3) z)) a3 with
 | none => none
 | some x3 => match AR (Np z c) many ((Ak (Ak a0 (AG a1) (AT a0 (AG a3) z)) (AG a3) (AT a0 (AG a1) z)), a1, (IntKind.wrap .i64 (a1 + 1)), (IntKind.wrap .i64 (a2 - 1)), ()) with
 | none => none
 | some r => match r with
 | .inl (o4, o5, o6, o7, _) => match AR (No z c) many (o4, o5, o6, o7, ()) with
  | none => none
  | some r => match r with
  | .inl (o8, o9, o10, o11, _) => match (ilt o11 o10) with
   | true => match idx o8 o9 with
    | none => none
    | some x12 => match idx o8 o11 with
    | none => none
    | some x13 => match idx o8 o11 with
    | none => none
    | some x14 => match idx (Ak o8 (AG o11) (AT o8 (AG o9) z)) o9 with
    | none => none
    | some x15 => some ((Ak (Ak o8 (AG o11) (AT o8 (AG o9) z)) (AG o9) (AT o8 (AG o11) z)), o11, true, ())
   | false => match idx o8 o11 with
   | none => none
   | some x16 => match idx o8 o10 with
   | none => none
   | some x17 => match idx o8 o10 with
   | none => none
   | some x18 => match idx (Ak o8 (AG o10) (AT o8 (AG o11) z)) o11 with
   | none => none
   | some x19 => match AR (Nn z c) many ((Ak (Ak o8 (AG o10) (AT o8 (AG o11) z)) (AG o11) (AT o8 (AG o10) z)), o9, (IntKind.wrap .i64 (o10 + 1)), (IntKind.wrap .i64 (o11 - 1)), ()) with
   | none => none
   | some r => match r with
   | .inl (o20, o21, o22, _) => match idx o20 o21 with
    | none => none
    | some x23 => match idx o20 o22 with
    | none => none
    | some x24 => match idx o20 o22 with
    | none => none
    | some x25 => match idx (Ak o20 (AG o22) (AT o20 (AG o21) z)) o21 with
    | none => none
    | some x26 => some ((Ak (Ak o20 (AG o22) (AT o20 (AG o21) z)) (AG o21) (AT o20 (AG o22) z)), o22, false, ())
   | .inr _ => none
  | .inr _ => none
 | .inr _ => none
def Zw [Lk] {α : Type} (z : α) (c : α × α × Unit → Option U8) (v : (List α × Int × Int × Int × Unit)) : Option ((List α × Int × Bool × Unit)) := Lk.f ((Sj z c) v)
theorem ASw {α : Type} (z : α) (c : α × α × Unit → Option U8) (v : (List α × Int × Int × Int × Unit)) : (Zw z c) v = (Sj z c) v := AK _
def Pk [Lk] {α : Type} (z : α) (c : α × α × Unit → Option U8) (self : (List α × Int × Int × Int × Unit) → Option ((List α × Unit))) (y7 : List α) (a1 a2 p l : Int) (a4 a5 : Bool) : Option ((List α × Int × Int × Int × Bool × Bool × Unit) ⊕ (List α × Unit) ⊕ Unit) :=
 match (ilt 0 a1) with
 | true => match idx y7 (IntKind.wrap .i64 (a1 - 1)) with
  | none => none
  | some x9 => match idx y7 p with
  | none => none
  | some x10 => match c ((AT y7 (AG (IntKind.wrap .i64 (a1 - 1))) z), (AT y7 (AG p) z), ()) with
  | none => none
  | some (y11, _) => match (!(ilt y11 0)) with
  | true => match (Sk z c) (y7, a1, a2, p, ()) with
   | none => none
   | some (y12, y13, _) => some (.inl (y12, y13, a2, l, a4, a5, ()))
  | false => match (Zw z c) (y7, a1, a2, p, ()) with
  | none => none
  | some (y14, y15, y16, _) => match quo? .i64 (IntKind.wrap .i64 (a2 - a1)) 8 with
  | none => none
  | some x17 => match (ilt (IntKind.wrap .i64 (y15 - a1)) (IntKind.wrap .i64 (a2 - y15))) with
  | true => match self (y14, a1, y15, l, ()) with
   | none => none
   | some (y18, _) => some (.inl (y18, (IntKind.wrap .i64 (y15 + 1)), a2, l, (ile x17 (IntKind.wrap .i64 (y15 - a1))), y16, ()))
  | false => match self (y14, (IntKind.wrap .i64 (y15 + 1)), a2, l, ()) with
  | none => none
  | some (y19, _) => some (.inl (y19, a1, y15, l, (ile x17 (IntKind.wrap .i64 (a2 - y15))), y16, ()))
 | false => match (Zw z c) (y7, a1, a2, p, ()) with
 | none => none
 | some (y20, y21, y22, _) => match quo? .i64 (IntKind.wrap .i64 (a2 - a1)) 8 with
 | none => none
 | some x23 => match (ilt (IntKind.wrap .i64 (y21 - a1)) (IntKind.wrap .i64 (a2 - y21))) with
 | true => match self (y20, a1, y21, l, ()) with
  | none => none
  | some (y24, _) => some (.inl (y24, (IntKind.wrap .i64 (y21 + 1)), a2, l, (ile x23 (IntKind.wrap .i64 (y21 - a1))), y22, ()))
 | false => match self (y20, (IntKind.wrap .i64 (y21 + 1)), a2, l, ()) with
 | none => none
 | some (y25, _) => some (.inl (y25, a1, y21, l, (ile x23 (IntKind.wrap .i64 (a2 - y21))), y22, ()))
def ACW [Lk] {α : Type} (z : α) (c : α × α × Unit → Option U8) (self : (List α × Int × Int × Int × Unit) → Option ((List α × Unit))) (y6 : List α) (a1 a2 p h l : Int) (a4 a5 : Bool) : Option ((List α × Int × Int × Int × Bool × Bool × Unit) ⊕ (List α × Unit) ⊕ Unit) :=
 match a4 with
 | true => match a5 with
  | true => match (ieq h 1) with
   | true => match (Nk z c) (y6, a1, a2, ()) with
    | none => none
    | some (y7, y8, _) => match y8 with
    | true => some (.inr (.inl (y7, ())))
    | false => (Pk z c) self y7 a1 a2 p l a4 a5
   | false => (Pk z c) self y6 a1 a2 p l a4 a5
  | false => (Pk z c) self y6 a1 a2 p l a4 a5
 | false => (Pk z c) self y6 a1 a2 p l a4 a5
def ACV [Lk] {α : Type} (z : α) (c : α × α × Unit → Option U8) (self : (List α × Int × Int × Int × Unit) → Option ((List α × Unit))) (y2 : List α) (a1 a2 l : Int) (a4 a5 : Bool) : Option ((List α × Int × Int × Int × Bool × Bool × Unit) ⊕ (List α × Unit) ⊕ Unit) :=
 match (ACS z c) (y2, a1, a2, ()) with
 | none => none
 | some (y3, y4, y5, _) => match (ieq y5 2) with
 | true => match (AVT z c) (y3, a1, a2, ()) with
  | none => none
  | some (y6, _) => (ACW z c) self y6 a1 a2 (IntKind.wrap .i64 ((IntKind.wrap .i64 (a2 - 1)) - (IntKind.wrap .i64 (y4 - a1)))) 1 l a4 a5
 | false => (ACW z c) self y3 a1 a2 y4 y5 l a4 a5
def Nj [Lk] {α : Type} (z : α) (c : α × α × Unit → Option U8) (self : (List α × Int × Int × Int × Unit) → Option ((List α × Unit))) : (List α × Int × Int × Int × Bool × Bool × Unit) → Option ((List α × Int × Int × Int × Bool × Bool × Unit) ⊕ (List α × Unit) ⊕ Unit) := fun (a0, a1, a2, a3, a4, a5, _) =>
 match (ile (IntKind.wrap .i64 (a2 - a1)) 12) with
 | true => match (ATX z c) (a0, a1, a2, ()) with
  | none => none
  | some (y0, _) => some (.inr (.inl (y0, ())))
 | false => match (ieq a3 0) with
 | true => match (ANb z c) (a0, a1, a2, ()) with
  | none => none
  | some (y1, _) => some (.inr (.inl (y1, ())))
 | false => match (!a4) with
 | true => match (AD9 z c) (a0, a1, a2, ()) with
  | none => none
  | some (y2, _) => (ACV z c) self y2 a1 a2 (IntKind.wrap .i64 (a3 - 1)) a4 a5
 | false => (ACV z c) self a0 a1 a2 a3 a4 a5
def ACX [Lk] {α : Type} (z : α) (c : α × α × Unit → Option U8) (self : (List α × Int × Int × Int × Unit) → Option ((List α × Unit))) : (List α × Int × Int × Int × Unit) → Option ((List α × Unit)) := fun (a0, a1, a2, a3, _) =>
 match AR ((Nj z c) self) many (a0, a1, a2, a3, true, true, ()) with
 | none => none
 | some r => match r with
 | .inl (o0, _) => some (o0, ())
 | .inr _ => none
def Jn [Lk] {α : Type} (z : α) (c : α × α × Unit → Option U8) : Nat → (List α × Int × Int × Int × Unit) → Option ((List α × Unit))
 | 0, _ => none
 | n + 1, v => (ACX z c) ((Jn z c) n) v
def AVa [Lk] {α : Type} (z : α) (c : α × α × Unit → Option U8) (v : (List α × Int × Int × Int × Unit)) : Option ((List α × Unit)) := Lk.f ((Jn z c) 100 v)
theorem AVZ {α : Type} (z : α) (c : α × α × Unit → Option U8) (v : (List α × Int × Int × Int × Unit)) : (AVa z c) v = (Jn z c) 100 v := AK _
def Sd [Lk] {α : Type} (z : α) (c : α × α × Unit → Option U8) : (List α × Unit) → Option ((List α × Unit)) := fun (a0, _) =>
 match bitsLen ((IntKind.wrap .u64 (AQ a0)), ()) with
 | none => none
 | some (y0, _) => match (AVa z c) (a0, 0, (AQ a0), y0, ()) with
 | none => none
 | some (y1, _) => some (y1, ())
def AR1 [Lk] {α : Type} (z : α) (c : α × α × Unit → Option U8) (v : (List α × Unit)) : Option ((List α × Unit)) := Lk.f ((Sd z c) v)
theorem AR0 {α : Type} (z : α) (c : α × α × Unit → Option U8) (v : (List α × Unit)) : (AR1 z c) v = (Sd z c) v := AK _
abbrev ALI : AE := [(.tmp 0, .own 55 U5), (.tmp 1, .di), (.tmp 2, .di), (.tmp 3, .clo 204 [])]
abbrev ALH : AE := [(.obj 0, .own 55 U5)]
abbrev ALG : List RS := []
abbrev ANY : AE := [(.obj 0, .own 55 U5), (.tmp 0, .own' 0), (.tmp 1, .di), (.tmp 2, .di), (.tmp 3, .clo 204 []), (.tmp 8, .di), (.tmp 9, .di)]
abbrev ANW : At := [(.exit 2, [(.obj 0, .own 55 U5), (.tmp 0, .own' 0), (.tmp 1, .di), (.tmp 2, .di), (.tmp 3, .clo 204 []), (.tmp 8, .di)])]
def ANU [Lk] : Ue → Option (Ue ⊕ U7 ⊕ Unit) := Ew (([] : List (Int)) : U4) A4
abbrev ANZ : AE := [(.obj 0, .own 55 U5), (.tmp 0, .own' 0), (.tmp 1, .di), (.tmp 2, .di), (.tmp 3, .clo 204 []), (.tmp 8, .di)]
abbrev ANX : At := [(.exit 0, [(.obj 0, .own 55 U5)])]
def ANV [Lk] : U7 → Option (U7 ⊕ Ug ⊕ Unit) := DN (([] : List (Int)) : U4) A4
def ATU [Lk] : Uc → Option (Ug) := MP (([] : List (Int)) : U4) A4
def AXE [Lk] (v : Uc) : Option (Ug) := ATX (([] : List (Int)) : U4) A4 v
theorem AV5 v : AXE v = ATU v := AK _
abbrev AB0 : AE := [(.tmp 0, .own 55 U5), (.tmp 1, .di), (.tmp 2, .di), (.tmp 3, .di), (.tmp 4, .clo 204 [])]
abbrev ABz : AE := [(.obj 0, .own 55 U5)]
abbrev ABy : List RS := []
abbrev AFk : AE := [(.obj 0, .own 55 U5), (.tmp 0, .own' 0), (.tmp 2, .di), (.tmp 3, .di), (.tmp 4, .clo 204 []), (.tmp 10, .di)]
abbrev AFj : At := [(.exit 0, [(.obj 0, .own 55 U5)]), (.ret, [(.obj 0, .own 55 U5)])]
def AFi [Lk] : U7 → Option (U7 ⊕ Ug ⊕ Ug ⊕ Unit) := Je (([] : List (Int)) : U4) A4
def AMq [Lk] : U7 → Option (Ug) := Sf (([] : List (Int)) : U4) A4
def ASJ [Lk] (v : U7) : Option (Ug) := AFl (([] : List (Int)) : U4) A4 v
theorem ASI v : ASJ v = AMq v := AK _
abbrev ADH : AE := [(.tmp 0, .own 55 U5), (.tmp 1, .di), (.tmp 2, .di), (.tmp 3, .clo 204 [])]
abbrev ADG : AE := [(.obj 0, .own 55 U5)]
abbrev ADF : List RS := []
abbrev AHI : AE := [(.obj 0, .own 55 U5), (.tmp 0, .own' 0), (.tmp 3, .clo 204 []), (.tmp 8, .di), (.tmp 9, .di), (.tmp 12, .di)]
abbrev AHG : At := [(.exit 2, [(.obj 0, .own 55 U5)])]
def AHD [Lk] : U7 → Option (U7 ⊕ Ug ⊕ Unit) := J5 (([] : List (Int)) : U4) A4
abbrev AHJ : AE := [(.obj 0, .own 55 U5), (.tmp 0, .own' 0), (.tmp 3, .clo 204 []), (.tmp 8, .di), (.tmp 9, .di), (.tmp 10, .di), (.tmp 11, .di)]
abbrev AHH : At := [(.exit 0, [(.obj 0, .own 55 U5), (.tmp 0, .own' 0), (.tmp 3, .clo 204 []), (.tmp 8, .di), (.tmp 9, .di), (.tmp 10, .di)])]
def AHF [Lk] : Ue → Option (Ue ⊕ U7 ⊕ Unit) := J6 (([] : List (Int)) : U4) A4
def ANa [Lk] : Uc → Option (Ug) := Sr (([] : List (Int)) : U4) A4
def ATj [Lk] (v : Uc) : Option (Ug) := ANb (([] : List (Int)) : U4) A4 v
theorem ATi v : ATj v = ANa v := AK _
abbrev Xb : AE := [(.tmp 0, .own 55 U5), (.tmp 1, .di), (.tmp 2, .di), (.tmp 3, .clo 204 [])]
abbrev Xa : AE := [(.obj 0, .own 55 U5)]
abbrev XZ : List RS := []
abbrev AAW : AE := [(.obj 0, .own 55 U5), (.tmp 0, .own' 0), (.tmp 1, .di), (.tmp 8, .di), (.tmp 9, .box 1), (.cell 1 0, .dat (.int .u64)), (.tmp 10, .dat (.int .u64)), (.tmp 11, .di)]
abbrev AAV : At := [(.exit 0, [(.obj 0, .own 55 U5)])]
def AAU [Lk] : Uo → Option (Uo ⊕ Ug ⊕ Unit) := Fx (([] : List (Int)) : U4) A4
def AH5 [Lk] : Uc → Option (Ug) := Of (([] : List (Int)) : U4) A4
def AMC [Lk] (v : Uc) : Option (Ug) := AD9 (([] : List (Int)) : U4) A4 v
theorem AQv v : AMC v = AH5 v := AK _
abbrev Pr : AE := [(.tmp 0, .own 55 U5), (.tmp 1, .di), (.tmp 2, .di), (.tmp 3, .box 1), (.cell 1 0, .di), (.tmp 4, .clo 204 [])]
abbrev Pq : AE := [(.obj 0, .own 55 U5), (.obj 1, .box 1), (.cell 1 0, .di), (.tmp 0, .di), (.tmp 1, .di)]
abbrev Pp : List RS := [.one, .one]
def Zz [Lk] : U7 → Option (U7) := Ku (([] : List (Int)) : U4) A4
def ACh [Lk] (v : U7) : Option (U7) := Kv (([] : List (Int)) : U4) A4 v
theorem AKQ v : ACh v = Zz v := AK _
abbrev Py : AE := [(.tmp 0, .own 55 U5), (.tmp 1, .di), (.tmp 2, .di), (.tmp 3, .di), (.tmp 4, .box 1), (.cell 1 0, .di), (.tmp 5, .clo 204 [])]
abbrev Px : AE := [(.obj 0, .own 55 U5), (.obj 1, .box 1), (.cell 1 0, .di), (.tmp 0, .di)]
abbrev Pw : List RS := [.one]
def Z1 [Lk] : Ue → Option (Uc) := Ky (([] : List (Int)) : U4) A4
def ACq [Lk] (v : Ue) : Option (Uc) := Kz (([] : List (Int)) : U4) A4 v
theorem AKn v : ACq v = Z1 v := AK _
abbrev P2 : AE := [(.tmp 0, .own 55 U5), (.tmp 1, .di), (.tmp 2, .box 1), (.cell 1 0, .di), (.tmp 3, .clo 204 [])]
abbrev P1 : AE := [(.obj 0, .own 55 U5), (.obj 1, .box 1), (.cell 1 0, .di), (.tmp 0, .di)]
abbrev Pz : List RS := [.one]
def Z2 [Lk] : Uc → Option (Uc) := K0 (([] : List (Int)) : U4) A4
def ACs [Lk] (v : Uc) : Option (Uc) := K1 (([] : List (Int)) : U4) A4 v
theorem AKp v : ACs v = Z2 v := AK _
abbrev Vn : AE := [(.tmp 0, .own 55 U5), (.tmp 1, .di), (.tmp 2, .di), (.tmp 3, .clo 204 [])]
abbrev Vm : AE := [(.obj 0, .own 55 U5), (.tmp 0, .di), (.tmp 1, .di)]
abbrev Vl : List RS := [.one, .one]
def AGB [Lk] : Uc → Option (Uc) := Nh (([] : List (Int)) : U4) A4
def AJ9 [Lk] (v : Uc) : Option (Uc) := ACS (([] : List (Int)) : U4) A4 v
theorem APL v : AJ9 v = AGB v := AK _
abbrev AJs : AE := [(.tmp 0, .own 55 U5), (.tmp 1, .di), (.tmp 2, .di), (.tmp 3, .clo 204 [])]
abbrev AJr : AE := [(.obj 0, .own 55 U5)]
abbrev AJq : List RS := []
abbrev AMy : AE := [(.obj 0, .own 55 U5), (.tmp 0, .own' 0), (.tmp 8, .di), (.tmp 9, .di)]
abbrev AMx : At := [(.exit 0, [(.obj 0, .own 55 U5)])]
def AMw [Lk] : Uc → Option (Uc ⊕ Ug ⊕ Unit) := Si (([] : List (Int)) : U4) A4
def ASX [Lk] : Uc → Option (Ug) := ACJ (([] : List (Int)) : U4) A4
def AWx [Lk] (v : Uc) : Option (Ug) := AVT (([] : List (Int)) : U4) A4 v
theorem AVR v : AWx v = ASX v := AK _
abbrev MC : AE := [(.tmp 0, .own 55 U5), (.tmp 1, .di), (.tmp 2, .di), (.tmp 3, .clo 204 [])]
abbrev MB : AE := [(.obj 0, .own 55 U5), (.tmp 0, .dat .bool)]
abbrev MA : List RS := [.one]
abbrev RC : AE := [(.obj 0, .own 55 U5), (.tmp 0, .own' 0), (.tmp 1, .di), (.tmp 2, .di), (.tmp 3, .clo 204 []), (.tmp 9, .di), (.tmp 10, .di), (.tmp 12, .di)]
abbrev Q8 : At := [(.exit 6, [(.obj 0, .own 55 U5), (.tmp 0, .own' 0), (.tmp 1, .di), (.tmp 2, .di), (.tmp 3, .clo 204 []), (.tmp 9, .di), (.tmp 10, .di)])]
def Q4 [Lk] : Uo → Option (Uo ⊕ Ue ⊕ Unit) := E2 (([] : List (Int)) : U4) A4
abbrev RD : AE := [(.obj 0, .own 55 U5), (.tmp 0, .own' 0), (.tmp 1, .di), (.tmp 2, .di), (.tmp 3, .clo 204 []), (.tmp 9, .di), (.tmp 10, .di), (.tmp 11, .di)]
abbrev Q9 : At := [(.exit 4, [(.obj 0, .own 55 U5), (.tmp 0, .own' 0), (.tmp 1, .di), (.tmp 2, .di), (.tmp 3, .clo 204 []), (.tmp 9, .di), (.tmp 10, .di)])]
def Q5 [Lk] : Uo → Option (Uo ⊕ Ue ⊕ Unit) := E3 (([] : List (Int)) : U4) A4
abbrev RE : AE := [(.obj 0, .own 55 U5), (.tmp 0, .own' 0), (.tmp 1, .di), (.tmp 2, .di), (.tmp 3, .clo 204 []), (.tmp 9, .di), (.tmp 10, .di)]
abbrev RA : At := [(.exit 2, [(.obj 0, .own 55 U5), (.tmp 0, .own' 0), (.tmp 1, .di), (.tmp 2, .di), (.tmp 3, .clo 204 []), (.tmp 9, .di), (.tmp 10, .di)])]
def Q6 [Lk] : Ue → Option (Ue ⊕ Ue ⊕ Unit) := Gu (([] : List (Int)) : U4) A4
abbrev RH : AE := [(.obj 0, .own 55 U5), (.tmp 0, .own' 0), (.tmp 1, .di), (.tmp 2, .di), (.tmp 3, .clo 204 []), (.tmp 9, .di), (.tmp 10, .di)]
abbrev RB : At := [(.ret, [(.obj 0, .own 55 U5), (.tmp 8, .dat .bool)]), (.exit 0, [(.obj 0, .own 55 U5)])]
def Q7 [Lk] : Ue → Option (Ue ⊕ (List U4 × Bool × Unit) ⊕ Ug ⊕ Unit) := CA (([] : List (Int)) : U4) A4
def Vw [Lk] : Uc → Option ((List U4 × Bool × Unit)) := IV (([] : List (Int)) : U4) A4
def Vx [Lk] (v : Uc) : Option ((List U4 × Bool × Unit)) := Nk (([] : List (Int)) : U4) A4 v
theorem AGi v : Vx v = Vw v := AK _
abbrev Po : AE := [(.tmp 0, .own 55 U5), (.tmp 1, .di), (.tmp 2, .di), (.tmp 3, .di), (.tmp 4, .clo 204 [])]
abbrev Pn : AE := [(.obj 0, .own 55 U5), (.tmp 0, .di)]
abbrev Pm : List RS := [.one]
abbrev WC : AE := [(.obj 0, .own 55 U5), (.tmp 0, .own' 0), (.tmp 1, .di), (.tmp 4, .clo 204 []), (.tmp 11, .di), (.tmp 12, .di)]
abbrev V9 : At := [(.exit 4, [(.obj 0, .own 55 U5), (.tmp 0, .own' 0), (.tmp 1, .di), (.tmp 4, .clo 204 []), (.tmp 11, .di), (.tmp 12, .di)])]
def Vy [Lk] : U7 → Option V2 := IW (([] : List (Int)) : U4) A4
abbrev WD : AE := [(.obj 0, .own 55 U5), (.tmp 0, .own' 0), (.tmp 1, .di), (.tmp 4, .clo 204 []), (.tmp 11, .di), (.tmp 12, .di)]
abbrev WA : At := [(.exit 2, [(.obj 0, .own 55 U5), (.tmp 0, .own' 0), (.tmp 1, .di), (.tmp 4, .clo 204 []), (.tmp 11, .di), (.tmp 12, .di)])]
def Vz [Lk] : U7 → Option V2 := IX (([] : List (Int)) : U4) A4
abbrev WE : AE := [(.obj 0, .own 55 U5), (.tmp 0, .own' 0), (.tmp 1, .di), (.tmp 4, .clo 204 []), (.tmp 11, .di), (.tmp 12, .di)]
abbrev WB : At := [(.exit 0, [(.obj 0, .own 55 U5), (.tmp 11, .di)])]
def V8 [Lk] : U7 → Option (U7 ⊕ V3 ⊕ Unit) := IY (([] : List (Int)) : U4) A4
def Zx [Lk] : U7 → Option (V3) := Ks (([] : List (Int)) : U4) A4
def ACe [Lk] (v : U7) : Option (V3) := Sk (([] : List (Int)) : U4) A4 v
theorem AKO v : ACe v = Zx v := AK _
end
end Go.Pev
end
section
namespace Go.Pev
set_option maxRecDepth 100000
noncomputable section
attribute [local irreducible] LY Im MS LP ATa ATb ATd R6 YU UL YO Iv AU many IntKind.wrap AQ Ak AT BX Cz Eg KE AG CM DT imax Ac Ai
abbrev ACa : AE := [(.tmp 0, .own 55 U5), (.tmp 1, .di), (.tmp 2, .di), (.tmp 3, .di), (.tmp 4, .clo 204 [])]
abbrev ACZ : AE := [(.obj 0, .own 55 U5), (.tmp 0, .di), (.tmp 1, .dat .bool)]
abbrev ACY : List RS := [.one, .one]
abbrev AGV : AE := [(.obj 0, .own 55 U5), (.tmp 0, .own' 0), (.tmp 1, .di), (.tmp 4, .clo 204 []), (.tmp 12, .di), (.tmp 13, .di)]
abbrev AGQ : At := [(.exit 8, [(.obj 0, .own 55 U5), (.tmp 0, .own' 0), (.tmp 1, .di), (.tmp 4, .clo 204 []), (.tmp 12, .di), (.tmp 13, .di)])]
def AGH [Lk] : U7 → Option V2 := Nl (([] : List (Int)) : U4) A4
abbrev AGW : AE := [(.obj 0, .own 55 U5), (.tmp 0, .own' 0), (.tmp 1, .di), (.tmp 4, .clo 204 []), (.tmp 12, .di), (.tmp 13, .di)]
abbrev AGR : At := [(.exit 6, [(.obj 0, .own 55 U5), (.tmp 0, .own' 0), (.tmp 1, .di), (.tmp 4, .clo 204 []), (.tmp 12, .di), (.tmp 13, .di)])]
def AGJ [Lk] : U7 → Option V2 := Nm (([] : List (Int)) : U4) A4
abbrev AGX : AE := [(.obj 0, .own 55 U5), (.tmp 0, .own' 0), (.tmp 1, .di), (.tmp 4, .clo 204 []), (.tmp 12, .di), (.tmp 13, .di)]
abbrev AGS : At := [(.exit 4, [(.obj 0, .own 55 U5), (.tmp 0, .own' 0), (.tmp 1, .di), (.tmp 13, .di)])]
def AGL [Lk] : U7 → Option (U7 ⊕ Uc ⊕ Unit) := Nn (([] : List (Int)) : U4) A4
abbrev AGY : AE := [(.obj 0, .own 55 U5), (.tmp 0, .own' 0), (.tmp 1, .di), (.tmp 4, .clo 204 []), (.tmp 12, .di), (.tmp 13, .di)]
abbrev AGT : At := [(.exit 2, [(.obj 0, .own 55 U5), (.tmp 0, .own' 0), (.tmp 1, .di), (.tmp 4, .clo 204 []), (.tmp 12, .di), (.tmp 13, .di)])]
def AGN [Lk] : U7 → Option V2 := No (([] : List (Int)) : U4) A4
abbrev AGZ : AE := [(.obj 0, .own 55 U5), (.tmp 0, .own' 0), (.tmp 1, .di), (.tmp 4, .clo 204 []), (.tmp 12, .di), (.tmp 13, .di)]
abbrev AGU : At := [(.exit 0, [(.obj 0, .own 55 U5), (.tmp 0, .own' 0), (.tmp 1, .di), (.tmp 4, .clo 204 []), (.tmp 12, .di), (.tmp 13, .di)])]
def AGP [Lk] : U7 → Option V2 := Np (([] : List (Int)) : U4) A4
def AM7 [Lk] : U7 → Option ((List U4 × Int × Bool × Unit)) := Sj (([] : List (Int)) : U4) A4
def ASv [Lk] (v : U7) : Option ((List U4 × Int × Bool × Unit)) := Zw (([] : List (Int)) : U4) A4 v
theorem ASu v : ASv v = AM7 v := AK _
abbrev Vq : AE := [(.tmp 0, .own 55 U5), (.tmp 1, .di), (.tmp 2, .di), (.tmp 3, .di), (.tmp 4, .clo 204 [])]
abbrev Vp : AE := [(.obj 0, .own 55 U5)]
abbrev Vo : List RS := []
abbrev AM6 : AE := [(.obj 0, .own 55 U5), (.tmp 0, .own' 0), (.tmp 1, .di), (.tmp 2, .di), (.tmp 3, .di), (.tmp 4, .clo 204 []), (.tmp 10, .dat .bool), (.tmp 11, .dat .bool)]
abbrev AM5 : At := [(.ret, [(.obj 0, .own 55 U5)])]
def AM4 [Lk] (self : U7 → Option (Ug)) : (List U4 × Int × Int × Int × Bool × Bool × Unit) → Option ((List U4 × Int × Int × Int × Bool × Bool × Unit) ⊕ Ug ⊕ Unit) := Nj (([] : List (Int)) : U4) A4 self
def AW0 [Lk] (self : U7 → Option (Ug)) : U7 → Option (Ug) := ACX (([] : List (Int)) : U4) A4 self
def Vr [Lk] : Nat → U7 → Option (Ug) := Jn (([] : List (Int)) : U4) A4
def AVY [Lk] (v : U7) : Option (Ug) := AVa (([] : List (Int)) : U4) A4 v
theorem AVX v : AVY v = Vr 100 v := AK _
abbrev ABa : AE := [(.tmp 0, .own 55 U5), (.tmp 1, .clo 204 [])]
abbrev ABZ : AE := [(.obj 0, .own 55 U5)]
abbrev ABY : List RS := []
def AMp [Lk] : Ug → Option (Ug) := Sd (([] : List (Int)) : U4) A4
def AFQ [Lk] (v : Ug) : Option (Ug) := AR1 (([] : List (Int)) : U4) A4 v
theorem ARz v : AFQ v = AMp v := AK _
abbrev AAv : AE := [(.tmp 0, .dat U9), (.tmp 1, .dat U5), (.tmp 2, .dat Uk)]
abbrev AAu : AE := [(.tmp 0, .di), (.tmp 1, .own 55 U5)]
abbrev AAt : List RS := [.agg 2]
abbrev AEk : AE := [(.tmp 3, .box 2), (.cell 0 0, .di), (.cell 0 1, .dat Uk), (.tmp 6, .box 2), (.cell 1 0, .di), (.cell 1 1, .nil U5), (.tmp 7, .own 55 U5), (.tmp 29, .dat Uk), (.tmp 30, .di), (.tmp 31, .di)]
abbrev AEi : At := [(.exit 2, [(.tmp 3, .box 2), (.cell 0 0, .di), (.cell 0 1, .dat Uk), (.tmp 6, .box 2), (.cell 1 0, .di), (.cell 1 1, .nil U5), (.tmp 7, .own 55 U5)])]
def F7 [Lk] : (Int × List U4 × Int × List U4 × List U4 × Int × Int × Unit) → Option ((Int × List U4 × Int × List U4 × List U4 × Int × Int × Unit) ⊕ (Int × List U4 × Int × List U4 × Unit) ⊕ Unit) := fun (a0, a1, a2, a3, a4, a5, a6, _) =>
 match (ilt a6 a5) with
 | true => match idx a4 a6 with
  | none => none
  | some x0 => match VR (x0, ()) with
  | none => none
  | some (y1, _) => match (fits ((AQ a3) + (AQ ([y1] : List U4)))) with
  | true => some (.inl (a0, a1, a2, (BX a3 ([y1] : List U4)), a4, a5, (IntKind.wrap .i64 (a6 + 1)), ()))
  | false => none
 | false => some (.inr (.inl (a0, a1, a2, a3, ())))
abbrev AEl : AE := [(.tmp 1, .dat U5), (.tmp 2, .dat Uk), (.tmp 3, .box 2), (.cell 0 0, .di), (.cell 0 1, .dat Uk), (.tmp 6, .box 2), (.cell 1 0, .di), (.cell 1 1, .nil U5), (.tmp 7, .own 55 U5), (.tmp 13, .dat Uk), (.tmp 14, .di), (.tmp 15, .di)]
abbrev AEj : At := [(.exit 0, [(.tmp 2, .dat Uk), (.tmp 3, .box 2), (.cell 0 0, .di), (.cell 0 1, .dat Uk), (.tmp 6, .box 2), (.cell 1 0, .di), (.cell 1 1, .nil U5), (.tmp 7, .own 55 U5)])]
def F8 [Lk] : V4 → Option (V4 ⊕ (List U4 × Int × List U4 × Int × List U4 × Unit) ⊕ Unit) := fun (a0, a1, a2, a3, a4, a5, a6, a7, a8, _) =>
 match (ilt a8 a7) with
 | true => match idx a6 a8 with
  | none => none
  | some x0 => match Eh (a0, a8, ()) with
  | none => none
  | some (y1, _) => match (!y1) with
  | true => match (fits ((AQ a5) + (AQ ([x0] : List U4)))) with
   | true => some (.inl (a0, a1, a2, a3, a4, (BX a5 ([x0] : List U4)), a6, a7, (IntKind.wrap .i64 (a8 + 1)), ()))
   | false => none
  | false => some (.inl (a0, a1, a2, a3, a4, a5, a6, a7, (IntKind.wrap .i64 (a8 + 1)), ()))
 | false => some (.inr (.inl (a1, a2, a3, a4, a5, ())))
def SX [Lk] : (Ua × List Int × List U4 × Unit) → Option ((Int × List U4 × Unit)) := fun (a0, a1, a2, _) =>
 match AR F8 many (a1, a2, a0.1, a0.2.1, 0, ([] : List U4), a0.2.1, (AQ a0.2.1), 0, ()) with
 | none => none
 | some r => match r with
 | .inl (o0, o1, o2, o3, o4, _) => match AR F7 many (o1, o2, o3, o4, o0, (AQ o0), 0, ()) with
  | none => none
  | some r => match r with
  | .inl (o5, o6, o7, o8, _) => match AFQ (o8, ()) with
   | none => none
   | some (y9, _) => some (o5, y9, ())
  | .inr _ => none
 | .inr _ => none
def AEn [Lk] := fun v => Lk.f (SX v)
theorem AEm v : AEn v = SX v := AK _
abbrev ABI : AE := [(.tmp 0, .dat U9), (.tmp 1, .di), (.tmp 2, .di)]
abbrev ABH : AE := [(.tmp 0, .di), (.tmp 1, .dat Uk), (.tmp 2, .di)]
abbrev ABG : List RS := [.agg 2, .one]
def M9 [Lk] : (Ua × Int × Int × Unit) → Option (V5) := fun (a0, a1, a2, _) =>
 match asked ((a0.1, (a0.2.1, ())), a1, a2, ()) with
 | none => none
 | some (y0, _) => match (!(ieq y0 0)) with
 | true => some (a0.1, a0.2.1, y0, ())
 | false => match Ln ((a0.1, (a0.2.1, ())), a1, ()) with
 | none => none
 | some (y1, _) => match Ln ((a0.1, (a0.2.1, ())), a2, ()) with
 | none => none
 | some (y2, _) => match (ieq y1 y2) with
 | true => some (a0.1, a0.2.1, 5, ())
 | false => match idx a0.2.1 y1 with
 | none => none
 | some x3 => match Zo (x3, a1, ()) with
 | none => none
 | some (y4, y5, _) => match idx a0.2.1 y2 with
 | none => none
 | some x6 => match Zo (x6, a2, ()) with
 | none => none
 | some (y7, y8, _) => match HL y4 0 1 with
 | none => none
 | some x9 => match AOR (a0.1, a1, a2, ()) with
 | none => none
 | some (y10, _) => match AOR (a0.1, a2, a1, ()) with
 | none => none
 | some (y11, _) => match HL y4 1 (AQ y4) with
 | none => none
 | some x12 => match It (([(Eg 0 (AG (AQ x9)) y4), ([y10] : List (Int)), y7, ([y11] : List (Int)), (Eg 1 (AG (AQ x12)) y4)] : List U4), ()) with
 | none => none
 | some (y13, _) => match AEn ((a0.1, (a0.2.1, ())), ([y1, y2] : List (Int)), ([y13] : List U4), ()) with
 | none => none
 | some (y14, y15, _) => some (y14, y15, 0, ())
def TW [Lk] := fun v => Lk.f (M9 v)
theorem TV v : TW v = M9 v := AK _
abbrev Eb : AE := [(.tmp 0, .dat U5), (.cap 1 0, .box 2), (.cell 0 0, .di), (.cell 0 1, .dat Uk), (.tmp 1, .clo 155 [(0, 0)])]
abbrev Ea : AE := [(.obj 0, .box 2), (.cell 0 0, .di), (.cell 0 1, .dat Uk), (.tmp 0, .di)]
abbrev EZ : List RS := [.one]
abbrev G3 : AE := [(.obj 0, .box 2), (.cell 0 0, .di), (.cell 0 1, .dat Uk), (.tmp 0, .dat U5), (.tmp 1, .clo 155 [(0, 0)]), (.tmp 7, .di), (.tmp 8, .di)]
abbrev G2 : At := [(.ret, [(.obj 0, .box 2), (.cell 0 0, .di), (.cell 0 1, .dat Uk), (.tmp 4, .di)]), (.exit 0, [(.obj 0, .box 2), (.cell 0 0, .di), (.cell 0 1, .dat Uk)])]
def BR [Lk] : (Int × List U4 × List Int × Int × Int × Unit) → Option ((Int × List U4 × List Int × Int × Int × Unit) ⊕ V5 ⊕ (Int × List U4 × Unit) ⊕ Unit) := fun (a0, a1, a2, a3, a4, _) =>
 match (ilt a4 a3) with
 | true => match idx a2 a4 with
  | none => none
  | some x0 => match (ilt x0 0) with
  | true => some (.inr (.inl (a0, a1, a4, ())))
  | false => match (ile a0 x0) with
  | true => some (.inr (.inl (a0, a1, a4, ())))
  | false => some (.inl (a0, a1, a2, a3, (IntKind.wrap .i64 (a4 + 1)), ()))
 | false => some (.inr (.inr (.inl (a0, a1, ()))))
def DA [Lk] : (List Int × Int × List U4 × Unit) → Option (V5) := fun (a0, a1, a2, _) =>
 match AR BR many (a1, a2, a0, (AQ a0), 0, ()) with
 | none => none
 | some r => match r with
 | .inl (o0, o1, o2, _) => some (o0, o1, o2, ())
 | .inr r => match r with
 | .inl (o3, o4, _) => some (o3, o4, (-1 : Int), ())
 | .inr _ => none
def Dz [Lk] := fun v => Lk.f (DA v)
theorem G4 v : Dz v = DA v := AK _
abbrev D5 : AE := [(.tmp 0, .dat U5), (.cap 1 0, .box 2), (.cell 0 0, .di), (.cell 0 1, .dat Uk), (.tmp 1, .clo 155 [(0, 0)])]
abbrev D4 : AE := [(.obj 0, .box 2), (.cell 0 0, .di), (.cell 0 1, .dat Uk), (.tmp 0, .dat .bool)]
abbrev D3 : List RS := [.one]
def Cd [Lk] : (List Int × Int × List U4 × Unit) → Option ((Int × List U4 × Bool × Unit)) := fun (a0, a1, a2, _) =>
 match Dz (a0, a1, a2, ()) with
 | none => none
 | some (y0, y1, y2, _) => some (y0, y1, (ile 0 y2), ())
def CS [Lk] := fun v => Lk.f (Cd v)
theorem GY v : CS v = Cd v := AK _
abbrev W3 : AE := [(.tmp 0, .dat U9), (.tmp 1, .dat U5)]
abbrev W2 : AE := [(.tmp 0, .di)]
abbrev W1 : List RS := [.one]
def OE [Lk] : (Ua × List Int × Unit) → Option (U8) := fun (a0, a1, _) =>
 match Ll ((a0.1, (a0.2.1, ())), ()) with
 | none => none
 | some (y0, _) => match (!y0) with
 | true => some (1, ())
 | false => match CS (a1, a0.1, a0.2.1, ()) with
 | none => none
 | some (y1, y2, y3, _) => match y3 with
 | true => some (10, ())
 | false => some (0, ())
def Il [Lk] := fun v => Lk.f (OE v)
theorem AAK v : Il v = OE v := AK _
abbrev ALg : AE := [(.tmp 0, .dat Un)]
abbrev ALf : AE := [(.tmp 0, .own 3 U2)]
abbrev ALe : List RS := [.one]
abbrev ANo : AE := [(.tmp 3, .own 3 U2), (.tmp 6, .dat Un), (.tmp 7, .di), (.tmp 8, .di)]
abbrev ANn : At := [(.exit 0, [(.tmp 3, .own 3 U2)])]
def Ip [Lk] : (List Int × List U3 × Int × Int × Unit) → Option ((List Int × List U3 × Int × Int × Unit) ⊕ Ui ⊕ Unit) := fun (a0, a1, a2, a3, _) =>
 match (ilt a3 a2) with
 | true => match idx a1 a3 with
  | none => none
  | some x0 => match (fits ((AQ a0) + (AQ ([x0.1, x0.2.1] : List (Int))))) with
  | true => some (.inl ((BX a0 ([x0.1, x0.2.1] : List (Int))), a1, a2, (IntKind.wrap .i64 (a3 + 1)), ()))
  | false => none
 | false => some (.inr (.inl (a0, ())))
def ADh [Lk] : Uw → Option (Ui) := fun (a0, _) =>
 match AR Ip many (([] : List (Int)), a0, (AQ a0), 0, ()) with
 | none => none
 | some r => match r with
 | .inl (o0, _) => some (o0, ())
 | .inr _ => none
def ends [Lk] := fun v => Lk.f (ADh v)
theorem ANp v : ends v = ADh v := AK _
abbrev MZ : AE := [(.tmp 0, .dat U9), (.tmp 1, .dat Un), (.tmp 2, .clo 161 [])]
abbrev MY : AE := [(.tmp 0, .dat U9), (.tmp 1, .own 4 .bool), (.tmp 2, .di)]
abbrev MX : List RS := [.one, .one, .one]
abbrev RU : AE := [(.tmp 2, .clo 161 []), (.tmp 3, .box 2), (.cell 0 0, .di), (.cell 0 1, .dat Uk), (.tmp 6, .box 2), (.cell 1 0, .di), (.cell 1 1, .nil U5), (.tmp 10, .own 4 .bool), (.tmp 23, .dat Un), (.tmp 24, .di), (.tmp 25, .di)]
abbrev RT : At := [(.exit 0, [(.tmp 3, .box 2), (.cell 0 0, .di), (.cell 0 1, .dat Uk), (.tmp 6, .box 2), (.cell 1 0, .di), (.cell 1 1, .nil U5), (.tmp 10, .own 4 .bool)])]
def Cy [Lk] : (Int × List U4 × Int × List Bool × List U3 × Int × Int × Unit) → Option ((Int × List U4 × Int × List Bool × List U3 × Int × Int × Unit) ⊕ (Int × List U4 × Int × List Bool × Unit) ⊕ Unit) := fun (a0, a1, a2, a3, a4, a5, a6, _) =>
 match (ilt a6 a5) with
 | true => match idx a4 a6 with
  | none => none
  | some x0 => match TW ((a0, (a1, ())), x0.1, x0.2.1, ()) with
  | none => none
  | some (y1, y2, y3, _) => match (fits ((AQ a3) + (AQ ([(ieq y3 0)] : List (Bool))))) with
  | true => some (.inl (y1, y2, a2, (BX a3 ([(ieq y3 0)] : List (Bool))), a4, a5, (IntKind.wrap .i64 (a6 + 1)), ()))
  | false => none
 | false => some (.inr (.inl (a0, a1, a2, a3, ())))
def Ir [Lk] : (Ua × List U3 × Unit) → Option ((Ua × List Bool × Int × Unit)) := fun (a0, a1, _) =>
 match ends (a1, ()) with
 | none => none
 | some (y0, _) => match Il ((a0.1, (a0.2.1, ())), y0, ()) with
 | none => none
 | some (y1, _) => match (!(ieq y1 0)) with
 | true => some ((a0.1, (a0.2.1, ())), ([] : List (Bool)), y1, ())
 | false => match AR Cy many (a0.1, a0.2.1, 0, ([] : List (Bool)), a1, (AQ a1), 0, ()) with
 | none => none
 | some r => match r with
 | .inl (o2, o3, o4, o5, _) => some ((o2, (o3, ())), o5, 0, ())
 | .inr _ => none
def OO [Lk] := fun v => Lk.f (Ir v)
theorem RV v : OO v = Ir v := AK _
abbrev W6 : AE := [(.tmp 0, .dat U9), (.tmp 1, .dat Un)]
abbrev W5 : AE := [(.tmp 0, .dat U9), (.tmp 1, .own 4 .bool), (.tmp 2, .di)]
abbrev W4 : List RS := [.one, .one, .one]
def OF [Lk] : (Ua × List U3 × Unit) → Option ((Ua × List Bool × Int × Unit)) := fun (a0, a1, _) =>
 match OO ((a0.1, (a0.2.1, ())), a1, ()) with
 | none => none
 | some (y0, y1, y2, _) => some ((y0.1, (y0.2.1, ())), y1, y2, ())
def ADX [Lk] := fun v => Lk.f (OF v)
theorem AAM v : ADX v = OF v := AK _
abbrev AT1 : AE := [(.tmp 0, .di), (.tmp 1, .dat Un)]
abbrev AT0 : AE := [(.tmp 0, .dat U9), (.tmp 1, .di)]
abbrev ATz : List RS := [.one, .one]
def ANl [Lk] : Ux → Option ((Ua × Int × Unit)) := fun (a0, a1, _) =>
 match AE4 (a0, ()) with
 | none => none
 | some (y0, y1, y2, _) => match (!(ieq y2 0)) with
 | true => some ((0, (([] : List U4), ())), y2, ())
 | false => match ADX ((y0, (y1, ())), a1, ()) with
 | none => none
 | some (y3, y4, y5, _) => match (!(ieq y5 0)) with
 | true => some ((0, (([] : List U4), ())), y5, ())
 | false => some ((y3.1, (y3.2.1, ())), 0, ())
def fof [Lk] := fun v => Lk.f (ANl v)
theorem AT2 v : fof v = ANl v := AK _
abbrev AS5 : AE := [(.tmp 0, .dat U5)]
abbrev AS3 : AE := [(.tmp 0, .di)]
abbrev AS1 : List RS := [.one]
abbrev AS4 : AE := [(.tmp 3, .di), (.tmp 6, .dat U5), (.tmp 7, .di), (.tmp 8, .di)]
abbrev AS2 : At := [(.ret, [(.tmp 2, .di)]), (.exit 0, [(.tmp 3, .di)])]
def MD [Lk] : (Int × List Int × Int × Int × Unit) → Option ((Int × List Int × Int × Int × Unit) ⊕ U8 ⊕ U8 ⊕ Unit) := fun (a0, a1, a2, a3, _) =>
 match (ilt a3 a2) with
 | true => match idx a1 a3 with
  | none => none
  | some x0 => match (!(ieq x0 a0)) with
  | true => some (.inr (.inl (x0, ())))
  | false => some (.inl (a0, a1, a2, (IntKind.wrap .i64 (a3 + 1)), ()))
 | false => some (.inr (.inr (.inl (a0, ()))))
def AM8 [Lk] : Ui → Option (U8) := fun (a0, _) =>
 match AR MD many (0, a0, (AQ a0), 0, ()) with
 | none => none
 | some r => match r with
 | .inl (o0, _) => some (o0, ())
 | .inr r => match r with
 | .inl (o1, _) => some (o1, ())
 | .inr _ => none
def orI [Lk] := fun v => Lk.f (AM8 v)
theorem AS7 v : orI v = AM8 v := AK _
abbrev WT : AE := [(.tmp 0, .di)]
abbrev WS : AE := [(.tmp 0, .dat .bool)]
abbrev WR : List RS := [.one]
def Ju [Lk] : U8 → Option (Uh) := fun (a0, _) =>
 match (ile 1 a0) with
 | true => some ((ile a0 64), ())
 | false => some (false, ())
def P7 [Lk] := fun v => Lk.f (Ju v)
theorem P6 v : P7 v = Ju v := AK _
abbrev AKv : AE := [(.tmp 0, .di)]
abbrev AKu : AE := [(.tmp 0, .di)]
abbrev AKt : List RS := [.one]
def AKw [Lk] : U8 → Option (U8) := fun (a0, _) =>
 match P7 (a0, ()) with
 | none => none
 | some (y0, _) => match (!y0) with
 | true => some (0, ())
 | false => match bitsLen ((IntKind.wrap .u64 (IntKind.wrap .i64 (a0 - 1))), ()) with
 | none => none
 | some (y1, _) => some (y1, ())
def Yi [Lk] := fun v => Lk.f (AKw v)
theorem AVp v : Yi v = AKw v := AK _
abbrev ML : AE := [(.tmp 0, .dat U0), (.tmp 1, .dat U0)]
abbrev MK : AE := [(.tmp 0, .di)]
abbrev MJ : List RS := [.one]
def Ii [Lk] : (U1 × U1 × Unit) → Option (U8) := fun (a0, a1, _) =>
 match E9 (a0.1, a1.1, ()) with
 | none => none
 | some (y0, _) => match E9 (a0.2.1, a1.2.1, ()) with
 | none => none
 | some (y1, _) => match orI (([y0, y1] : List (Int)), ()) with
 | none => none
 | some (y2, _) => some (y2, ())
def Hp [Lk] := fun v => Lk.f (Ii v)
theorem RL v : Hp v = Ii v := AK _
abbrev WO : AE := [(.tmp 0, .dat Ud), (.tmp 1, .di)]
abbrev WN : AE := [(.tmp 0, .own 42 U6)]
abbrev WM : List RS := [.one]
abbrev Z5 : AE := [(.tmp 1, .di), (.tmp 5, .own 42 U6), (.tmp 9, .dat Ur), (.tmp 10, .di), (.tmp 11, .di)]
abbrev Z4 : At := [(.exit 0, [(.tmp 5, .own 42 U6)])]
def B2 [Lk] : (Int × List U3 × List U1 × Int × Int × Unit) → Option ((Int × List U3 × List U1 × Int × Int × Unit) ⊕ Uw ⊕ Unit) := fun (a0, a1, a2, a3, a4, _) =>
 match (ilt a4 a3) with
 | true => match idx a2 a4 with
  | none => none
  | some x0 => match x0.2.2.2.1 with
  | true => match (ile a0 x0.2.2.1) with
   | true => match (fits ((AQ a1) + (AQ ([(x0.1, (x0.2.1, ()))] : List U3)))) with
    | true => some (.inl (a0, (BX a1 ([(x0.1, (x0.2.1, ()))] : List U3)), a2, a3, (IntKind.wrap .i64 (a4 + 1)), ()))
    | false => none
   | false => some (.inl (a0, a1, a2, a3, (IntKind.wrap .i64 (a4 + 1)), ()))
  | false => some (.inl (a0, a1, a2, a3, (IntKind.wrap .i64 (a4 + 1)), ()))
 | false => some (.inr (.inl (a1, ())))
def Js [Lk] : (Uf × Int × Unit) → Option (Uw) := fun (a0, a1, _) =>
 match AR B2 many (a1, ([] : List U3), a0.2.1, (AQ a0.2.1), 0, ()) with
 | none => none
 | some r => match r with
 | .inl (o0, _) => some (o0, ())
 | .inr _ => none
def MG [Lk] := fun v => Lk.f (Js v)
theorem P5 v : MG v = Js v := AK _
abbrev WW : AE := [(.tmp 0, .dat Ud)]
abbrev WV : AE := [(.tmp 0, .dat .bool)]
abbrev WU : List RS := [.one]
abbrev Z7 : AE := [(.tmp 1, .box 2), (.cell 0 0, .di), (.cell 0 1, .dat Ur), (.tmp 3, .di), (.tmp 23, .dat Ur), (.tmp 24, .di), (.tmp 25, .di)]
abbrev Z6 : At := [(.ret, [(.tmp 2, .dat .bool)]), (.exit 0, [(.tmp 1, .box 2), (.cell 0 0, .di), (.cell 0 1, .dat Ur)])]
def C7 [Lk] : (Int × List U1 × Int × List U1 × Int × Int × Unit) → Option ((Int × List U1 × Int × List U1 × Int × Int × Unit) ⊕ Uh ⊕ (Int × List U1 × Unit) ⊕ Unit) := fun (a0, a1, a2, a3, a4, a5, _) =>
 match (ilt a5 a4) with
 | true => match idx a3 a5 with
  | none => none
  | some x0 => match (ilt x0.1 0) with
  | true => some (.inr (.inl (false, ())))
  | false => match (ile x0.2.1 x0.1) with
  | true => some (.inr (.inl (false, ())))
  | false => match (ile a0 x0.2.1) with
  | true => some (.inr (.inl (false, ())))
  | false => match (ilt x0.2.2.1 0) with
  | true => some (.inr (.inl (false, ())))
  | false => match (ilt a2 x0.2.2.1) with
  | true => some (.inr (.inl (false, ())))
  | false => match (ilt 0 a5) with
  | true => match idx a1 (IntKind.wrap .i64 (a5 - 1)) with
   | none => none
   | some x1 => match Hp ((x1.1, (x1.2.1, (x1.2.2.1, (x1.2.2.2.1, ())))), (x0.1, (x0.2.1, (x0.2.2.1, (x0.2.2.2.1, ())))), ()) with
   | none => none
   | some (y2, _) => match (ile 0 y2) with
   | true => some (.inr (.inl (false, ())))
   | false => some (.inl (a0, a1, a2, a3, a4, (IntKind.wrap .i64 (a5 + 1)), ()))
  | false => some (.inl (a0, a1, a2, a3, a4, (IntKind.wrap .i64 (a5 + 1)), ()))
 | false => some (.inr (.inr (.inl (a0, a1, ()))))
def GL [Lk] : Uv → Option (Uh) := fun (a0, _) =>
 match P7 (a0.1, ()) with
 | none => none
 | some (y0, _) => match (!y0) with
 | true => some (false, ())
 | false => match (ilt 400 (AQ a0.2.1)) with
 | true => some (false, ())
 | false => match Yi (a0.1, ()) with
 | none => none
 | some (y1, _) => match AR C7 many (a0.1, a0.2.1, y1, a0.2.1, (AQ a0.2.1), 0, ()) with
 | none => none
 | some r => match r with
 | .inl (o2, _) => some (o2, ())
 | .inr r => match r with
 | .inl (o3, o4, _) => match MG ((o3, (o4, ())), 0, ()) with
  | none => none
  | some (y5, _) => match fof (o3, y5, ()) with
  | none => none
  | some (y6, y7, _) => match (ieq y7 0) with
  | true => some ((ieq (AQ y6.2.1) (IntKind.wrap .i64 (o3 - (AQ y5)))), ())
  | false => some (false, ())
 | .inr _ => none
def ER [Lk] := fun v => Lk.f (GL v)
theorem Hn v : ER v = GL v := AK _
abbrev Wc : AE := [(.tmp 0, .dat Ud)]
abbrev Wb : AE := [(.tmp 0, .own 42 U6)]
abbrev Wa : List RS := [.one]
abbrev Z9 : AE := [(.tmp 3, .own 42 U6), (.tmp 10, .dat Ur), (.tmp 11, .di), (.tmp 12, .di)]
abbrev Z8 : At := [(.exit 0, [(.tmp 3, .own 42 U6)])]
def ES [Lk] : (List U3 × List U1 × Int × Int × Unit) → Option ((List U3 × List U1 × Int × Int × Unit) ⊕ Uw ⊕ Unit) := fun (a0, a1, a2, a3, _) =>
 match (ilt a3 a2) with
 | true => match idx a1 a3 with
  | none => none
  | some x0 => match (fits ((AQ a0) + (AQ ([(x0.1, (x0.2.1, ()))] : List U3)))) with
  | true => some (.inl ((BX a0 ([(x0.1, (x0.2.1, ()))] : List U3)), a1, a2, (IntKind.wrap .i64 (a3 + 1)), ()))
  | false => none
 | false => some (.inr (.inl (a0, ())))
def Nt [Lk] : Uv → Option (Uw) := fun (a0, _) =>
 match ER ((a0.1, (a0.2.1, ())), ()) with
 | none => none
 | some (y0, _) => match (!y0) with
 | true => some (([] : List U3), ())
 | false => match AR ES many (([] : List U3), a0.2.1, (AQ a0.2.1), 0, ()) with
 | none => none
 | some r => match r with
 | .inl (o1, _) => some (o1, ())
 | .inr _ => none
def We [Lk] := fun v => Lk.f (Nt v)
theorem AAA v : We v = Nt v := AK _
abbrev UX : AE := [(.tmp 0, .di), (.tmp 1, .dat Un)]
abbrev UW : AE := [(.tmp 0, .di)]
abbrev UU : List RS := [.one]
abbrev Zf : AE := [(.tmp 0, .di), (.tmp 13, .dat Un), (.tmp 14, .di), (.tmp 15, .di)]
abbrev Ze : At := [(.ret, [(.tmp 4, .di)]), (.exit 0, [])]
def EH [Lk] : (Int × List U3 × Int × Int × Unit) → Option ((Int × List U3 × Int × Int × Unit) ⊕ U8 ⊕ (Unit) ⊕ Unit) := fun (a0, a1, a2, a3, _) =>
 match (ilt a3 a2) with
 | true => match idx a1 a3 with
  | none => none
  | some x0 => match (ilt (DT x0.1 x0.2.1) 0) with
  | true => some (.inr (.inl (10, ())))
  | false => match (ile a0 (imax x0.1 x0.2.1)) with
  | true => some (.inr (.inl (10, ())))
  | false => some (.inl (a0, a1, a2, (IntKind.wrap .i64 (a3 + 1)), ()))
 | false => some (.inr (.inr (.inl ())))
def NZ [Lk] : Ux → Option (U8) := fun (a0, a1, _) =>
 match (ilt a0 1) with
 | true => some (1, ())
 | false => match (ilt 64 a0) with
 | true => some (1, ())
 | false => match AR EH many (a0, a1, (AQ a1), 0, ()) with
 | none => none
 | some r => match r with
 | .inl (o0, _) => some (o0, ())
 | .inr r => match r with
 | .inl _ => some (0, ())
 | .inr _ => none
def Pd [Lk] := fun v => Lk.f (NZ v)
theorem Zg v : Pd v = NZ v := AK _
abbrev VI : AE := [(.tmp 0, .di)]
abbrev VH : AE := [(.tmp 0, .own 3 U2)]
abbrev VG : List RS := [.one]
abbrev Zk : AE := [(.tmp 3, .own 3 U2), (.tmp 8, .di), (.tmp 9, .di)]
abbrev Zj : At := [(.exit 0, [(.tmp 3, .own 3 U2)])]
def EI [Lk] : Uq → Option (Uq ⊕ Ui ⊕ Unit) := fun (a0, a1, a2, _) =>
 match (ilt a2 a1) with
 | true => match idx a0 a2 with
  | none => none
  | some x0 => some (.inl ((Ak a0 (AG a2) a2), a1, (IntKind.wrap .i64 (a2 + 1)), ()))
 | false => some (.inr (.inl (a0, ())))
def Na [Lk] : U8 → Option (Ui) := fun (a0, _) =>
 match (Hv a0 && Hv a0 && ile a0 a0 && true) with
 | true => match AR EI many ((KE (AG a0) (0 : Int)), (AQ (KE (AG a0) (0 : Int))), (0 : Int), ()) with
  | none => none
  | some r => match r with
  | .inl (o0, _) => some (o0, ())
  | .inr _ => none
 | false => none
def Pf [Lk] := fun v => Lk.f (Na v)
theorem Zl v : Pf v = Na v := AK _
abbrev UD : AE := [(.tmp 0, .own 3 U2), (.tmp 1, .di)]
abbrev UC : AE := [(.obj 0, .own 3 U2), (.tmp 0, .di)]
abbrev UB : List RS := [.one]
abbrev ZV : AE := [(.obj 0, .own 3 U2), (.tmp 0, .own' 0), (.tmp 1, .di)]
abbrev ZU : At := [(.exit 0, [(.obj 0, .own 3 U2), (.tmp 1, .di)])]
def Hi [Lk] : Us → Option (Us ⊕ Us ⊕ Unit) := fun (a0, a1, _) =>
 match idx a0 a1 with
 | none => none
 | some x0 => match (!(ieq (AT a0 (AG a1) 0) a1)) with
 | true => match idx a0 a1 with
  | none => none
  | some x1 => match idx a0 (AT a0 (AG a1) 0) with
  | none => none
  | some x2 => match idx a0 a1 with
  | none => none
  | some x3 => match idx (Ak a0 (AG a1) (AT a0 (AG (AT a0 (AG a1) 0)) 0)) a1 with
  | none => none
  | some x4 => some (.inl ((Ak a0 (AG a1) (AT a0 (AG (AT a0 (AG a1) 0)) 0)), (AT (Ak a0 (AG a1) (AT a0 (AG (AT a0 (AG a1) 0)) 0)) (AG a1) 0), ()))
 | false => some (.inr (.inl (a0, a1, ())))
def NU [Lk] : Us → Option (Us) := fun (a0, a1, _) =>
 match AR Hi many (a0, a1, ()) with
 | none => none
 | some r => match r with
 | .inl (o0, o1, _) => some (o0, o1, ())
 | .inr _ => none
def Ly [Lk] := fun v => Lk.f (NU v)
theorem ZW v : Ly v = NU v := AK _
abbrev ABw : AE := [(.tmp 0, .own 3 U2), (.tmp 1, .di), (.tmp 2, .di)]
abbrev ABv : AE := [(.obj 0, .own 3 U2), (.tmp 0, .dat .bool)]
abbrev ABu : List RS := [.one]
def NV [Lk] : Uq → Option ((List Int × Bool × Unit)) := fun (a0, a1, a2, _) =>
 match Ly (a0, a1, ()) with
 | none => none
 | some (y0, y1, _) => match Ly (y0, a2, ()) with
 | none => none
 | some (y2, y3, _) => match idx y2 (imax y1 y3) with
 | none => none
 | some x4 => some ((Ak y2 (AG (imax y1 y3)) (DT y1 y3)), (!(ieq y1 y3)), ())
def ZY [Lk] := fun v => Lk.f (NV v)
theorem UJ v : ZY v = NV v := AK _
abbrev Md : AE := [(.tmp 0, .dat Un), (.cap 1 0, .own 3 U2), (.tmp 1, .bnd 151 0)]
abbrev Mc : AE := [(.obj 0, .own 3 U2), (.tmp 0, .own 4 .bool)]
abbrev Mb : List RS := [.one]
abbrev RX : AE := [(.obj 0, .own 3 U2), (.tmp 1, .bnd 151 0), (.tmp 5, .own 4 .bool), (.tmp 8, .dat Un), (.tmp 9, .di), (.tmp 10, .di)]
abbrev RW : At := [(.exit 0, [(.obj 0, .own 3 U2), (.tmp 5, .own 4 .bool)])]
def BW [Lk] : (List Int × List Bool × List U3 × Int × Int × Unit) → Option ((List Int × List Bool × List U3 × Int × Int × Unit) ⊕ (List Int × List Bool × Unit) ⊕ Unit) := fun (a0, a1, a2, a3, a4, _) =>
 match (ilt a4 a3) with
 | true => match idx a2 a4 with
  | none => none
  | some x0 => match ZY (a0, x0.1, x0.2.1, ()) with
  | none => none
  | some (y1, y2, _) => match (fits ((AQ a1) + (AQ ([y2] : List (Bool))))) with
  | true => some (.inl (y1, (BX a1 ([y2] : List (Bool))), a2, a3, (IntKind.wrap .i64 (a4 + 1)), ()))
  | false => none
 | false => some (.inr (.inl (a0, a1, ())))
def GU [Lk] : (List U3 × List Int × Unit) → Option ((List Int × List Bool × Unit)) := fun (a0, a1, _) =>
 match AR BW many (a1, ([] : List (Bool)), a0, (AQ a0), 0, ()) with
 | none => none
 | some r => match r with
 | .inl (o0, o1, _) => some (o0, o1, ())
 | .inr _ => none
def Hx [Lk] := fun v => Lk.f (GU v)
theorem KD v : Hx v = GU v := AK _
abbrev UI : AE := [(.tmp 0, .own 3 U2), (.tmp 1, .dat Un)]
abbrev UH : AE := [(.obj 0, .own 3 U2), (.tmp 0, .own 4 .bool)]
abbrev UG : List RS := [.one]
def Jc [Lk] : (List Int × List U3 × Unit) → Option ((List Int × List Bool × Unit)) := fun (a0, a1, _) =>
 match Hx (a1, a0, ()) with
 | none => none
 | some (y0, y1, _) => some (y0, y1, ())
def Pa [Lk] := fun v => Lk.f (Jc v)
theorem PZ v : Pa v = Jc v := AK _
abbrev L4 : AE := [(.tmp 0, .di), (.tmp 1, .dat Un)]
abbrev L3 : AE := [(.tmp 0, .own 3 U2), (.tmp 1, .di)]
abbrev L0 : List RS := [.one, .one]
abbrev Q0 : AE := [(.tmp 7, .own 3 U2), (.tmp 21, .di), (.tmp 22, .di)]
abbrev Qz : At := [(.exit 0, [(.tmp 7, .own 3 U2)])]
def Ck [Lk] : Uq → Option (Uq ⊕ Ui ⊕ Unit) := fun (a0, a1, a2, _) =>
 match (ilt a2 a1) with
 | true => match Ly (a0, a2, ()) with
  | none => none
  | some (y0, y1, _) => match idx y0 a2 with
  | none => none
  | some x2 => some (.inl ((Ak y0 (AG a2) y1), a1, (IntKind.wrap .i64 (a2 + 1)), ()))
 | false => some (.inr (.inl (a0, ())))
def IT [Lk] : Ux → Option (Us) := fun (a0, a1, _) =>
 match Pd (a0, a1, ()) with
 | none => none
 | some (y0, _) => match (!(ieq y0 0)) with
 | true => some (([] : List (Int)), y0, ())
 | false => match Pf (a0, ()) with
 | none => none
 | some (y1, _) => match Pa (y1, a1, ()) with
 | none => none
 | some (y2, y3, _) => match AR Ck many (y2, (AQ y2), 0, ()) with
 | none => none
 | some r => match r with
 | .inl (o4, _) => some (o4, 0, ())
 | .inr _ => none
def Jg [Lk] := fun v => Lk.f (IT v)
theorem Q1 v : Jg v = IT v := AK _
abbrev KM : AE := [(.tmp 0, .di), (.tmp 1, .dat Un)]
abbrev KL : AE := [(.tmp 0, .own 3 U2)]
abbrev KK : List RS := [.one]
abbrev Oa : AE := [(.tmp 0, .di), (.tmp 1, .dat Un), (.tmp 5, .own 3 U2), (.tmp 7, .dat .bool), (.tmp 8, .di)]
abbrev OX : At := [(.exit 4, [(.tmp 0, .di), (.tmp 1, .dat Un), (.tmp 5, .own 3 U2), (.tmp 7, .dat .bool)])]
def CN [Lk] : (Int × List U3 × List Int × Bool × Int × Unit) → Option ((Int × List U3 × List Int × Bool × Int × Unit) ⊕ V7 ⊕ Unit) := fun (a0, a1, a2, a3, a4, _) =>
 match (ilt a4 (AQ a1)) with
 | true => match idx a1 a4 with
  | none => none
  | some x0 => match idx a1 a4 with
  | none => none
  | some x1 => match (ilt x0.1 0) with
  | true => some (.inl (a0, a1, a2, a3, (IntKind.wrap .i64 (a4 + 1)), ()))
  | false => match (ilt x1.2.1 0) with
  | true => some (.inl (a0, a1, a2, a3, (IntKind.wrap .i64 (a4 + 1)), ()))
  | false => match (ile a0 x0.1) with
  | true => some (.inl (a0, a1, a2, a3, (IntKind.wrap .i64 (a4 + 1)), ()))
  | false => match (ile a0 x1.2.1) with
  | true => some (.inl (a0, a1, a2, a3, (IntKind.wrap .i64 (a4 + 1)), ()))
  | false => match idx a2 x0.1 with
  | none => none
  | some x2 => match idx a2 x1.2.1 with
  | none => none
  | some x3 => match (ieq (AT a2 (AG x0.1) 0) (AT a2 (AG x1.2.1) 0)) with
  | true => some (.inl (a0, a1, a2, a3, (IntKind.wrap .i64 (a4 + 1)), ()))
  | false => match idx a2 x0.1 with
  | none => none
  | some x4 => match idx a2 x1.2.1 with
  | none => none
  | some x5 => match idx a2 x0.1 with
  | none => none
  | some x6 => match idx (Ak a2 (AG x0.1) (DT (AT a2 (AG x0.1) 0) (AT a2 (AG x1.2.1) 0))) x1.2.1 with
  | none => none
  | some x7 => some (.inl (a0, a1, (Ak (Ak a2 (AG x0.1) (DT (AT a2 (AG x0.1) 0) (AT a2 (AG x1.2.1) 0))) (AG x1.2.1) (DT (AT a2 (AG x0.1) 0) (AT a2 (AG x1.2.1) 0))), true, (IntKind.wrap .i64 (a4 + 1)), ()))
 | false => some (.inr (.inl (a0, a1, a2, a3, ())))
abbrev Oc : AE := [(.tmp 0, .di), (.tmp 1, .dat Un), (.tmp 5, .own 3 U2), (.tmp 7, .dat .bool)]
abbrev OY : At := [(.exit 2, [(.tmp 5, .own 3 U2)])]
def DB [Lk] : V7 → Option (V7 ⊕ Ui ⊕ Unit) := fun (a0, a1, a2, a3, _) =>
 match a3 with
 | true => match AR CN many (a0, a1, a2, false, 0, ()) with
  | none => none
  | some r => match r with
  | .inl (o0, o1, o2, o3, _) => some (.inl (o0, o1, o2, o3, ()))
  | .inr _ => none
 | false => some (.inr (.inl (a2, ())))
abbrev Od : AE := [(.tmp 0, .di), (.tmp 1, .dat Un), (.tmp 5, .own 3 U2), (.tmp 6, .di)]
abbrev OZ : At := [(.exit 0, [(.tmp 0, .di), (.tmp 1, .dat Un), (.tmp 5, .own 3 U2)])]
def CO [Lk] : Uy → Option (Uy ⊕ (Int × List U3 × List Int × Unit) ⊕ Unit) := fun (a0, a1, a2, a3, _) =>
 match (ilt a3 a0) with
 | true => match (fits ((AQ a2) + (AQ ([a3] : List (Int))))) with
  | true => some (.inl (a0, a1, (BX a2 ([a3] : List (Int))), (IntKind.wrap .i64 (a3 + 1)), ()))
  | false => none
 | false => some (.inr (.inl (a0, a1, a2, ())))
def HA [Lk] : Ux → Option (Ui) := fun (a0, a1, _) =>
 match AR CO many (a0, a1, ([] : List (Int)), 0, ()) with
 | none => none
 | some r => match r with
 | .inl (o0, o1, o2, _) => match AR DB many (o0, o1, o2, true, ()) with
  | none => none
  | some r => match r with
  | .inl (o3, _) => some (o3, ())
  | .inr _ => none
 | .inr _ => none
def Fv [Lk] := fun v => Lk.f (HA v)
theorem Oe v : Fv v = HA v := AK _
abbrev AA8 : AE := [(.tmp 0, .di)]
abbrev AA7 : AE := [(.tmp 0, .di)]
abbrev AA6 : List RS := [.one]
abbrev AEz : AE := [(.tmp 3, .di), (.tmp 4, .di)]
abbrev AEy : At := [(.exit 0, [(.tmp 3, .di)])]
def TU [Lk] : U3 → Option (U3 ⊕ U8 ⊕ Unit) := fun (a0, a1, _) =>
 match (ilt 0 a1) with
 | true => match quo? .i64 a1 2 with
  | none => none
  | some x0 => some (.inl ((IntKind.wrap .i64 (a0 + 1)), x0, ()))
 | false => some (.inr (.inl (a0, ())))
def ABA [Lk] : U8 → Option (U8) := fun (a0, _) =>
 match (ilt a0 1) with
 | true => some (0, ())
 | false => match (ilt 64 a0) with
 | true => some (0, ())
 | false => match AR TU many (0, (IntKind.wrap .i64 (a0 - 1)), ()) with
 | none => none
 | some r => match r with
 | .inl (o0, _) => some (o0, ())
 | .inr _ => none
def LO [Lk] := fun v => Lk.f (ABA v)
theorem ARQ v : LO v = ABA v := AK _
abbrev Pj : AE := [(.tmp 0, .dat Ud)]
abbrev Ph : AE := [(.tmp 0, .dat .bool)]
abbrev Pg : List RS := [.one]
abbrev VX : AE := [(.tmp 1, .box 2), (.cell 0 0, .di), (.cell 0 1, .dat Ur), (.tmp 3, .own 42 U6), (.tmp 6, .own 3 U2), (.tmp 7, .di), (.tmp 8, .di)]
abbrev VV : At := [(.exit 2, [(.tmp 1, .box 2), (.cell 0 0, .di), (.cell 0 1, .dat Ur), (.tmp 3, .own 42 U6), (.tmp 7, .di)])]
def Co [Lk] : (Int × List U1 × List U3 × List Int × Int × Int × Unit) → Option ((Int × List U1 × List U3 × List Int × Int × Int × Unit) ⊕ Uu ⊕ Unit) := fun (a0, a1, a2, a3, a4, a5, _) =>
 match (ilt a5 a0) with
 | true => match idx a3 a5 with
  | none => none
  | some x0 => match (ieq (AT a3 (AG a5) 0) a5) with
  | true => some (.inl (a0, a1, a2, a3, (IntKind.wrap .i64 (a4 + 1)), (IntKind.wrap .i64 (a5 + 1)), ()))
  | false => some (.inl (a0, a1, a2, a3, a4, (IntKind.wrap .i64 (a5 + 1)), ()))
 | false => some (.inr (.inl (a0, a1, a2, a4, ())))
abbrev VY : AE := [(.tmp 1, .box 2), (.cell 0 0, .di), (.cell 0 1, .dat Ur), (.tmp 3, .own 42 U6), (.tmp 4, .di)]
abbrev VW : At := [(.ret, [(.tmp 2, .dat .bool)]), (.exit 0, [(.tmp 1, .box 2), (.cell 0 0, .di), (.cell 0 1, .dat Ur), (.tmp 3, .own 42 U6)])]
def CF [Lk] : Uu → Option (Uu ⊕ Uh ⊕ (Int × List U1 × List U3 × Unit) ⊕ Unit) := fun (a0, a1, a2, a3, _) =>
 match (ilt a3 (AQ a1)) with
 | true => match idx a1 a3 with
  | none => none
  | some x0 => match (ilt x0.1 0) with
  | true => some (.inr (.inl (false, ())))
  | false => match (ile x0.2.1 x0.1) with
  | true => some (.inr (.inl (false, ())))
  | false => match (ile a0 x0.2.1) with
  | true => some (.inr (.inl (false, ())))
  | false => match (ilt x0.2.2.1 0) with
  | true => some (.inr (.inl (false, ())))
  | false => match LO (a0, ()) with
  | none => none
  | some (y1, _) => match (ilt y1 x0.2.2.1) with
  | true => some (.inr (.inl (false, ())))
  | false => match (ilt 0 a3) with
  | true => match idx a1 (IntKind.wrap .i64 (a3 - 1)) with
   | none => none
   | some x2 => match (ilt x0.1 x2.1) with
   | true => some (.inr (.inl (false, ())))
   | false => match idx a1 (IntKind.wrap .i64 (a3 - 1)) with
   | none => none
   | some x3 => match (ieq x3.1 x0.1) with
   | true => match idx a1 (IntKind.wrap .i64 (a3 - 1)) with
    | none => none
    | some x4 => match (ile x0.2.1 x4.2.1) with
    | true => some (.inr (.inl (false, ())))
    | false => match x0.2.2.2.1 with
    | true => match (fits ((AQ a2) + (AQ ([(x0.1, (x0.2.1, ()))] : List U3)))) with
     | true => some (.inl (a0, a1, (BX a2 ([(x0.1, (x0.2.1, ()))] : List U3)), (IntKind.wrap .i64 (a3 + 1)), ()))
     | false => none
    | false => some (.inl (a0, a1, a2, (IntKind.wrap .i64 (a3 + 1)), ()))
   | false => match x0.2.2.2.1 with
   | true => match (fits ((AQ a2) + (AQ ([(x0.1, (x0.2.1, ()))] : List U3)))) with
    | true => some (.inl (a0, a1, (BX a2 ([(x0.1, (x0.2.1, ()))] : List U3)), (IntKind.wrap .i64 (a3 + 1)), ()))
    | false => none
   | false => some (.inl (a0, a1, a2, (IntKind.wrap .i64 (a3 + 1)), ()))
  | false => match x0.2.2.2.1 with
  | true => match (fits ((AQ a2) + (AQ ([(x0.1, (x0.2.1, ()))] : List U3)))) with
   | true => some (.inl (a0, a1, (BX a2 ([(x0.1, (x0.2.1, ()))] : List U3)), (IntKind.wrap .i64 (a3 + 1)), ()))
   | false => none
  | false => some (.inl (a0, a1, a2, (IntKind.wrap .i64 (a3 + 1)), ()))
 | false => some (.inr (.inr (.inl (a0, a1, a2, ()))))
def De [Lk] : Uv → Option (Uh) := fun (a0, _) =>
 match (ilt a0.1 1) with
 | true => some (false, ())
 | false => match (ilt 64 a0.1) with
 | true => some (false, ())
 | false => match (ilt 400 (AQ a0.2.1)) with
 | true => some (false, ())
 | false => match AR CF many (a0.1, a0.2.1, ([] : List U3), 0, ()) with
 | none => none
 | some r => match r with
 | .inl (o0, _) => some (o0, ())
 | .inr r => match r with
 | .inl (o1, o2, o3, _) => match Fv (o1, o3, ()) with
  | none => none
  | some (y4, _) => match AR Co many (o1, o2, o3, y4, 0, 0, ()) with
  | none => none
  | some r => match r with
  | .inl (o5, o6, o7, o8, _) => some ((ieq o8 (IntKind.wrap .i64 (o5 - (AQ o7)))), ())
  | .inr _ => none
 | .inr _ => none
def Dt [Lk] := fun v => Lk.f (De v)
theorem EN v : Dt v = De v := AK _
abbrev QS : AE := [(.tmp 0, .dat Ud)]
abbrev QR : AE := [(.tmp 0, .own 42 U6)]
abbrev QQ : List RS := [.one]
abbrev XD : AE := [(.tmp 1, .box 2), (.cell 0 0, .di), (.cell 0 1, .dat Ur), (.tmp 3, .own 42 U6), (.tmp 4, .di)]
abbrev XC : At := [(.exit 0, [(.tmp 3, .own 42 U6)])]
def DV [Lk] : Uu → Option (Uu ⊕ Uw ⊕ Unit) := fun (a0, a1, a2, a3, _) =>
 match (ilt a3 (AQ a1)) with
 | true => match idx a1 a3 with
  | none => none
  | some x0 => match idx a1 a3 with
  | none => none
  | some x1 => match (fits ((AQ a2) + (AQ ([(x0.1, (x1.2.1, ()))] : List U3)))) with
  | true => some (.inl (a0, a1, (BX a2 ([(x0.1, (x1.2.1, ()))] : List U3)), (IntKind.wrap .i64 (a3 + 1)), ()))
  | false => none
 | false => some (.inr (.inl (a2, ())))
def K4 [Lk] : Uv → Option (Uw) := fun (a0, _) =>
 match Dt ((a0.1, (a0.2.1, ())), ()) with
 | none => none
 | some (y0, _) => match (!y0) with
 | true => some (([] : List U3), ())
 | false => match AR DV many (a0.1, a0.2.1, ([] : List U3), 0, ()) with
 | none => none
 | some r => match r with
 | .inl (o1, _) => some (o1, ())
 | .inr _ => none
def ON [Lk] := fun v => Lk.f (K4 v)
theorem XE v : ON v = K4 v := AK _
abbrev VC : AE := [(.tmp 0, .dat Un), (.tmp 1, .dat Un)]
abbrev VB : AE := [(.tmp 0, .dat .bool)]
abbrev VA : List RS := [.one]
abbrev Zi : AE := [(.tmp 0, .dat Un), (.tmp 1, .dat Un), (.tmp 5, .di)]
abbrev Zh : At := [(.ret, [(.tmp 4, .dat .bool)]), (.exit 0, [])]
def Pe [Lk] : (List U3 × List U3 × Int × Unit) → Option ((List U3 × List U3 × Int × Unit) ⊕ Uh ⊕ (Unit) ⊕ Unit) := fun (a0, a1, a2, _) =>
 match (ilt a2 (AQ a0)) with
 | true => match idx a0 a2 with
  | none => none
  | some x0 => match idx a1 a2 with
  | none => none
  | some x1 => match (!(ieq x0.1 x1.1 && (ieq x0.2.1 x1.2.1 && true))) with
  | true => some (.inr (.inl (false, ())))
  | false => some (.inl (a0, a1, (IntKind.wrap .i64 (a2 + 1)), ()))
 | false => some (.inr (.inr (.inl ())))
def VE [Lk] : (List U3 × List U3 × Unit) → Option (Uh) := fun (a0, a1, _) =>
 match (!(ieq (AQ a0) (AQ a1))) with
 | true => some (false, ())
 | false => match AR Pe many (a0, a1, 0, ()) with
 | none => none
 | some r => match r with
 | .inl (o0, _) => some (o0, ())
 | .inr r => match r with
 | .inl _ => some (true, ())
 | .inr _ => none
def ACC [Lk] := fun v => Lk.f (VE v)
theorem AO2 v : ACC v = VE v := AK _
abbrev ARU : AE := [(.tmp 0, .dat U9), (.tmp 1, .di)]
abbrev ART : AE := [(.tmp 0, .di)]
abbrev ARS : List RS := [.one]
def AMX [Lk] : (Ua × Int × Unit) → Option (U8) := fun (a0, a1, _) =>
 match tin (a0.1, a1, ()) with
 | none => none
 | some (y0, _) => match (!y0) with
 | true => some ((-1 : Int), ())
 | false => match Ll ((a0.1, (a0.2.1, ())), ()) with
 | none => none
 | some (y1, _) => match (!y1) with
 | true => some ((-1 : Int), ())
 | false => match Ln ((a0.1, (a0.2.1, ())), a1, ()) with
 | none => none
 | some (y2, _) => some (y2, ())
def tof [Lk] := fun v => Lk.f (AMX v)
theorem ARV v : tof v = AMX v := AK _
abbrev W9 : AE := [(.tmp 0, .dat Ud), (.tmp 1, .di), (.tmp 2, .di)]
abbrev W8 : AE := [(.tmp 0, .di)]
abbrev W7 : List RS := [.one]
abbrev AAO : AE := [(.tmp 1, .di), (.tmp 2, .di), (.tmp 3, .box 2), (.cell 0 0, .di), (.cell 0 1, .dat Ur), (.tmp 7, .di)]
abbrev AAN : At := [(.ret, [(.tmp 6, .di)]), (.exit 0, [])]
def Ed [Lk] : (Int × Int × Int × List U1 × Int × Unit) → Option ((Int × Int × Int × List U1 × Int × Unit) ⊕ U8 ⊕ (Unit) ⊕ Unit) := fun (a0, a1, a2, a3, a4, _) =>
 match (ilt a4 (AQ a3)) with
 | true => match idx a3 a4 with
  | none => none
  | some x0 => match (ieq x0.1 (DT a0 a1)) with
  | true => match idx a3 a4 with
   | none => none
   | some x1 => match (ieq x1.2.1 (imax a0 a1)) with
   | true => some (.inr (.inl (a4, ())))
   | false => some (.inl (a0, a1, a2, a3, (IntKind.wrap .i64 (a4 + 1)), ()))
  | false => some (.inl (a0, a1, a2, a3, (IntKind.wrap .i64 (a4 + 1)), ()))
 | false => some (.inr (.inr (.inl ())))
def OH [Lk] : (Uf × Int × Int × Unit) → Option (U8) := fun (a0, a1, a2, _) =>
 match Dt ((a0.1, (a0.2.1, ())), ()) with
 | none => none
 | some (y0, _) => match (!y0) with
 | true => some ((-1 : Int), ())
 | false => match AR Ed many (a1, a2, a0.1, a0.2.1, 0, ()) with
 | none => none
 | some r => match r with
 | .inl (o1, _) => some (o1, ())
 | .inr r => match r with
 | .inl _ => some ((-1 : Int), ())
 | .inr _ => none
def Io [Lk] := fun v => Lk.f (OH v)
theorem AAP v : Io v = OH v := AK _
end
end Go.Pev
end
section
namespace Go.Pev
set_option maxRecDepth 100000
noncomputable section
attribute [local irreducible] LY Im MS LP ATa ATb ATd R6 YU UL YO Iv AU many IntKind.wrap AQ Ak AT BX Cz Eg KE AG CM DT imax Ac Ai
abbrev QC : AE := [(.tmp 0, .dat Ud), (.tmp 1, .di)]
abbrev QB : AE := [(.tmp 0, .dat U9), (.tmp 1, .di)]
abbrev QA : List RS := [.one, .one]
def Ho [Lk] : (Uf × Int × Unit) → Option ((Ua × Int × Unit)) := fun (a0, a1, _) =>
 match ER ((a0.1, (a0.2.1, ())), ()) with
 | none => none
 | some (y0, _) => match (!y0) with
 | true => some ((0, (([] : List U4), ())), 1, ())
 | false => match MG ((a0.1, (a0.2.1, ())), a1, ()) with
 | none => none
 | some (y1, _) => match fof (a0.1, y1, ()) with
 | none => none
 | some (y2, y3, _) => some ((y2.1, (y2.2.1, ())), y3, ())
def Ih [Lk] := fun v => Lk.f (Ho v)
theorem MH v : Ih v = Ho v := AK _
abbrev UP : AE := [(.tmp 0, .di), (.tmp 1, .dat Un)]
abbrev UO : AE := [(.tmp 0, .di), (.tmp 1, .di)]
abbrev UN : List RS := [.one, .one]
abbrev Zc : AE := [(.tmp 7, .di), (.tmp 8, .di), (.tmp 17, .own 3 U2), (.tmp 18, .di), (.tmp 19, .di)]
abbrev Zb : At := [(.exit 0, [(.tmp 7, .di), (.tmp 8, .di)])]
def EG [Lk] : (Int × Int × List Int × Int × Int × Unit) → Option ((Int × Int × List Int × Int × Int × Unit) ⊕ U3 ⊕ Unit) := fun (a0, a1, a2, a3, a4, _) =>
 match (ilt a4 a3) with
 | true => match idx a2 a4 with
  | none => none
  | some x0 => match (ieq (AT a2 (AG a4) 0) a4) with
  | true => some (.inl (a0, (IntKind.wrap .i64 (a1 + 1)), a2, a3, (IntKind.wrap .i64 (a4 + 1)), ()))
  | false => some (.inl (a0, a1, a2, a3, (IntKind.wrap .i64 (a4 + 1)), ()))
 | false => some (.inr (.inl (a0, a1, ())))
def NW [Lk] : Ux → Option (U3) := fun (a0, a1, _) =>
 match Jg (a0, a1, ()) with
 | none => none
 | some (y0, y1, _) => match AR EG many (y1, 0, y0, (AQ y0), 0, ()) with
 | none => none
 | some r => match r with
 | .inl (o2, o3, _) => some (o3, o2, ())
 | .inr _ => none
def UR [Lk] := fun v => Lk.f (NW v)
theorem Zd v : UR v = NW v := AK _
abbrev ADd : AE := [(.tmp 0, .dat U9), (.tmp 1, .di), (.tmp 2, .di)]
abbrev ADc : AE := [(.tmp 0, .dat .bool), (.tmp 1, .di)]
abbrev ADb : List RS := [.one, .one]
def Sv [Lk] : (Ua × Int × Int × Unit) → Option ((Bool × Int × Unit)) := fun (a0, a1, a2, _) =>
 match Il ((a0.1, (a0.2.1, ())), ([a1, a2] : List (Int)), ()) with
 | none => none
 | some (y0, _) => match (!(ieq y0 0)) with
 | true => some (false, y0, ())
 | false => match tof ((a0.1, (a0.2.1, ())), a1, ()) with
 | none => none
 | some (y1, _) => match tof ((a0.1, (a0.2.1, ())), a2, ()) with
 | none => none
 | some (y2, _) => some ((ieq y1 y2), 0, ())
def AHZ [Lk] := fun v => Lk.f (Sv v)
theorem AHY v : AHZ v = Sv v := AK _
abbrev ADU : AE := [(.tmp 0, .dat U9), (.tmp 1, .di)]
abbrev ADT : AE := [(.tmp 0, .di), (.tmp 1, .di)]
abbrev ADS : List RS := [.one, .one]
def ADV [Lk] : (Ua × Int × Unit) → Option (U3) := fun (a0, a1, _) =>
 match Il ((a0.1, (a0.2.1, ())), ([a1] : List (Int)), ()) with
 | none => none
 | some (y0, _) => match (!(ieq y0 0)) with
 | true => some (0, y0, ())
 | false => match tof ((a0.1, (a0.2.1, ())), a1, ()) with
 | none => none
 | some (y1, _) => match idx a0.2.1 y1 with
 | none => none
 | some x2 => match quo? .i64 (IntKind.wrap .i64 ((AQ x2) + 2)) 3 with
 | none => none
 | some x3 => some (x3, 0, ())
def ANi [Lk] := fun v => Lk.f (ADV v)
theorem ATv v : ANi v = ADV v := AK _
abbrev PY : AE := [(.tmp 0, .dat U0), (.tmp 1, .dat U0)]
abbrev PX : AE := [(.tmp 0, .di)]
abbrev PW : List RS := [.one]
def Kp [Lk] : (U1 × U1 × Unit) → Option (U8) := fun (a0, a1, _) =>
 match E9 (a1.2.2.1, a0.2.2.1, ()) with
 | none => none
 | some (y0, _) => some (y0, ())
def Bq [Lk] := fun v => Lk.f (Kp v)
theorem UA v : Bq v = Kp v := AK _
abbrev ALD : AE := [(.tmp 0, .own 44 U0), (.tmp 1, .di), (.tmp 2, .di), (.tmp 3, .clo 73 [])]
abbrev ALC : AE := [(.obj 0, .own 44 U0)]
abbrev ALB : List RS := []
abbrev ANR : AE := [(.obj 0, .own 44 U0), (.tmp 0, .own' 0), (.tmp 1, .di), (.tmp 2, .di), (.tmp 3, .clo 73 []), (.tmp 8, .di), (.tmp 9, .di)]
abbrev ANP : At := [(.exit 2, [(.obj 0, .own 44 U0), (.tmp 0, .own' 0), (.tmp 1, .di), (.tmp 2, .di), (.tmp 3, .clo 73 []), (.tmp 8, .di)])]
def ANN [Lk] : Uj → Option (Uj ⊕ Ub ⊕ Unit) := Ew ((0, (0, (0, (false, ())))) : U1) Bq
abbrev ANS : AE := [(.obj 0, .own 44 U0), (.tmp 0, .own' 0), (.tmp 1, .di), (.tmp 2, .di), (.tmp 3, .clo 73 []), (.tmp 8, .di)]
abbrev ANQ : At := [(.exit 0, [(.obj 0, .own 44 U0)])]
def ANO [Lk] : Ub → Option (Ub ⊕ Um ⊕ Unit) := DN ((0, (0, (0, (false, ())))) : U1) Bq
def ATS [Lk] : Ul → Option (Um) := MP ((0, (0, (0, (false, ())))) : U1) Bq
def Yn [Lk] (v : Ul) : Option (Um) := ATX ((0, (0, (0, (false, ())))) : U1) Bq v
theorem ANT v : Yn v = ATS v := AK _
abbrev ABM : AE := [(.tmp 0, .own 44 U0), (.tmp 1, .di), (.tmp 2, .di), (.tmp 3, .di), (.tmp 4, .clo 73 [])]
abbrev ABL : AE := [(.obj 0, .own 44 U0)]
abbrev ABK : List RS := []
abbrev AE8 : AE := [(.obj 0, .own 44 U0), (.tmp 0, .own' 0), (.tmp 1, .di), (.tmp 2, .di), (.tmp 3, .di), (.tmp 10, .di)]
abbrev AE7 : At := [(.exit 0, [(.obj 0, .own 44 U0)])]
def GF [Lk] : Uj → Option (Uj ⊕ Um ⊕ Unit) := fun (a0, a1, a2, a3, a4, _) =>
 match (ilt a4 a3) with
 | true => match idx a0 (IntKind.wrap .i64 (a2 + a4)) with
  | none => none
  | some x0 => match idx a0 (IntKind.wrap .i64 (a1 + a4)) with
  | none => none
  | some x1 => match idx a0 (IntKind.wrap .i64 (a1 + a4)) with
  | none => none
  | some x2 => match idx (Ak a0 (AG (IntKind.wrap .i64 (a1 + a4))) ((AT a0 (AG (IntKind.wrap .i64 (a2 + a4))) (0, (0, (0, (false, ()))))).1, ((AT a0 (AG (IntKind.wrap .i64 (a2 + a4))) (0, (0, (0, (false, ()))))).2.1, ((AT a0 (AG (IntKind.wrap .i64 (a2 + a4))) (0, (0, (0, (false, ()))))).2.2.1, ((AT a0 (AG (IntKind.wrap .i64 (a2 + a4))) (0, (0, (0, (false, ()))))).2.2.2.1, ()))))) (IntKind.wrap .i64 (a2 + a4)) with
  | none => none
  | some x3 => some (.inl ((Ak (Ak a0 (AG (IntKind.wrap .i64 (a1 + a4))) ((AT a0 (AG (IntKind.wrap .i64 (a2 + a4))) (0, (0, (0, (false, ()))))).1, ((AT a0 (AG (IntKind.wrap .i64 (a2 + a4))) (0, (0, (0, (false, ()))))).2.1, ((AT a0 (AG (IntKind.wrap .i64 (a2 + a4))) (0, (0, (0, (false, ()))))).2.2.1, ((AT a0 (AG (IntKind.wrap .i64 (a2 + a4))) (0, (0, (0, (false, ()))))).2.2.2.1, ()))))) (AG (IntKind.wrap .i64 (a2 + a4))) ((AT a0 (AG (IntKind.wrap .i64 (a1 + a4))) (0, (0, (0, (false, ()))))).1, ((AT a0 (AG (IntKind.wrap .i64 (a1 + a4))) (0, (0, (0, (false, ()))))).2.1, ((AT a0 (AG (IntKind.wrap .i64 (a1 + a4))) (0, (0, (0, (false, ()))))).2.2.1, ((AT a0 (AG (IntKind.wrap .i64 (a1 + a4))) (0, (0, (0, (false, ()))))).2.2.2.1, ()))))), a1, a2, a3, (IntKind.wrap .i64 (a4 + 1)), ()))
 | false => some (.inr (.inl (a0, ())))
def Sa [Lk] : Ub → Option (Um) := fun (a0, a1, a2, a3, _) =>
 match AR GF many (a0, a1, a2, a3, 0, ()) with
 | none => none
 | some r => match r with
 | .inl (o0, _) => some (o0, ())
 | .inr _ => none
def Ta [Lk] := fun v => Lk.f (Sa v)
theorem AE9 v : Ta v = Sa v := AK _
abbrev AJh : AE := [(.tmp 0, .own 44 U0), (.tmp 1, .di), (.tmp 2, .di), (.tmp 3, .di), (.tmp 4, .clo 73 [])]
abbrev AJg : AE := [(.obj 0, .own 44 U0)]
abbrev AJf : List RS := []
abbrev AMu : AE := [(.obj 0, .own 44 U0), (.tmp 0, .own' 0), (.tmp 2, .di), (.tmp 4, .clo 73 []), (.tmp 10, .di), (.tmp 11, .di)]
abbrev AMt : At := [(.exit 0, [(.obj 0, .own 44 U0), (.tmp 0, .own' 0), (.tmp 2, .di), (.tmp 4, .clo 73 []), (.tmp 10, .di)])]
def Kq [Lk] : Ub → Option (Ub ⊕ Ul ⊕ Unit) := fun (a0, a1, a2, a3, _) =>
 match (!(ieq a2 a3)) with
 | true => match (ilt a3 a2) with
  | true => match Ta (a0, (IntKind.wrap .i64 (a1 - a2)), a1, a3, ()) with
   | none => none
   | some (y0, _) => some (.inl (y0, a1, (IntKind.wrap .i64 (a2 - a3)), a3, ()))
  | false => match Ta (a0, (IntKind.wrap .i64 (a1 - a2)), (IntKind.wrap .i64 ((IntKind.wrap .i64 (a1 + a3)) - a2)), a2, ()) with
  | none => none
  | some (y1, _) => some (.inl (y1, a1, a2, (IntKind.wrap .i64 (a3 - a2)), ()))
 | false => some (.inr (.inl (a0, a1, a2, ())))
def ACE [Lk] : Ub → Option (Um) := fun (a0, a1, a2, a3, _) =>
 match AR Kq many (a0, a2, (IntKind.wrap .i64 (a2 - a1)), (IntKind.wrap .i64 (a3 - a2)), ()) with
 | none => none
 | some r => match r with
 | .inl (o0, o1, o2, _) => match Ta (o0, (IntKind.wrap .i64 (o1 - o2)), o1, o2, ()) with
  | none => none
  | some (y3, _) => some (y3, ())
 | .inr _ => none
def AJj [Lk] := fun v => Lk.f (ACE v)
theorem AMv v : AJj v = ACE v := AK _
abbrev TZ : AE := [(.tmp 0, .own 44 U0), (.tmp 1, .di), (.tmp 2, .di), (.tmp 3, .di), (.tmp 4, .clo 73 [])]
abbrev TY : AE := [(.obj 0, .own 44 U0)]
abbrev TX : List RS := []
abbrev AMg : AE := [(.obj 0, .own 44 U0), (.tmp 0, .own' 0), (.tmp 1, .di), (.tmp 2, .di), (.tmp 3, .di), (.tmp 4, .clo 73 []), (.tmp 18, .di), (.tmp 19, .di), (.tmp 20, .di), (.tmp 21, .di), (.tmp 22, .di)]
abbrev AMb : At := [(.exit 8, [(.obj 0, .own 44 U0), (.tmp 0, .own' 0), (.tmp 1, .di), (.tmp 2, .di), (.tmp 3, .di), (.tmp 4, .clo 73 []), (.tmp 18, .di), (.tmp 19, .di), (.tmp 20, .di)])]
def Dp [Lk] (self : Ub → Option (Um)) : (List U1 × Int × Int × Int × Int × Int × Int × Int × Int × Unit) → Option ((List U1 × Int × Int × Int × Int × Int × Int × Int × Int × Unit) ⊕ (List U1 × Int × Int × Int × Int × Int × Int × Unit) ⊕ Unit) := fun (a0, a1, a2, a3, a4, a5, a6, a7, a8, _) =>
 match (ilt a6 a7) with
 | true => match shr? .u64 (IntKind.wrap .u64 (IntKind.wrap .i64 (a6 + a7))) 1 with
  | none => none
  | some x0 => match idx a0 (IntKind.wrap .i64 (a8 - (IntKind.wrap .i64 x0))) with
  | none => none
  | some x1 => match idx a0 (IntKind.wrap .i64 x0) with
  | none => none
  | some x2 => match Bq (((AT a0 (AG (IntKind.wrap .i64 (a8 - (IntKind.wrap .i64 x0)))) (0, (0, (0, (false, ()))))).1, ((AT a0 (AG (IntKind.wrap .i64 (a8 - (IntKind.wrap .i64 x0)))) (0, (0, (0, (false, ()))))).2.1, ((AT a0 (AG (IntKind.wrap .i64 (a8 - (IntKind.wrap .i64 x0)))) (0, (0, (0, (false, ()))))).2.2.1, ((AT a0 (AG (IntKind.wrap .i64 (a8 - (IntKind.wrap .i64 x0)))) (0, (0, (0, (false, ()))))).2.2.2.1, ())))), ((AT a0 (AG (IntKind.wrap .i64 x0)) (0, (0, (0, (false, ()))))).1, ((AT a0 (AG (IntKind.wrap .i64 x0)) (0, (0, (0, (false, ()))))).2.1, ((AT a0 (AG (IntKind.wrap .i64 x0)) (0, (0, (0, (false, ()))))).2.2.1, ((AT a0 (AG (IntKind.wrap .i64 x0)) (0, (0, (0, (false, ()))))).2.2.2.1, ())))), ()) with
  | none => none
  | some (y3, _) => match (!(ilt y3 0)) with
  | true => some (.inl (a0, a1, a2, a3, a4, a5, (IntKind.wrap .i64 ((IntKind.wrap .i64 x0) + 1)), a7, a8, ()))
  | false => some (.inl (a0, a1, a2, a3, a4, a5, a6, (IntKind.wrap .i64 x0), a8, ()))
 | false => some (.inr (.inl (a0, a1, a2, a3, a4, a5, a6, ())))
abbrev AMh : AE := [(.obj 0, .own 44 U0), (.tmp 0, .own' 0), (.tmp 14, .di), (.tmp 17, .di)]
abbrev AMc : At := [(.exit 6, [(.obj 0, .own 44 U0)])]
def IF [Lk] (self : Ub → Option (Um)) : Ul → Option (Ul ⊕ Um ⊕ Unit) := fun (a0, a1, a2, _) =>
 match (ilt a1 a2) with
 | true => match idx a0 (IntKind.wrap .i64 (a2 - 1)) with
  | none => none
  | some x0 => match idx a0 a2 with
  | none => none
  | some x1 => match idx a0 a2 with
  | none => none
  | some x2 => match idx (Ak a0 (AG a2) ((AT a0 (AG (IntKind.wrap .i64 (a2 - 1))) (0, (0, (0, (false, ()))))).1, ((AT a0 (AG (IntKind.wrap .i64 (a2 - 1))) (0, (0, (0, (false, ()))))).2.1, ((AT a0 (AG (IntKind.wrap .i64 (a2 - 1))) (0, (0, (0, (false, ()))))).2.2.1, ((AT a0 (AG (IntKind.wrap .i64 (a2 - 1))) (0, (0, (0, (false, ()))))).2.2.2.1, ()))))) (IntKind.wrap .i64 (a2 - 1)) with
  | none => none
  | some x3 => some (.inl ((Ak (Ak a0 (AG a2) ((AT a0 (AG (IntKind.wrap .i64 (a2 - 1))) (0, (0, (0, (false, ()))))).1, ((AT a0 (AG (IntKind.wrap .i64 (a2 - 1))) (0, (0, (0, (false, ()))))).2.1, ((AT a0 (AG (IntKind.wrap .i64 (a2 - 1))) (0, (0, (0, (false, ()))))).2.2.1, ((AT a0 (AG (IntKind.wrap .i64 (a2 - 1))) (0, (0, (0, (false, ()))))).2.2.2.1, ()))))) (AG (IntKind.wrap .i64 (a2 - 1))) ((AT a0 (AG a2) (0, (0, (0, (false, ()))))).1, ((AT a0 (AG a2) (0, (0, (0, (false, ()))))).2.1, ((AT a0 (AG a2) (0, (0, (0, (false, ()))))).2.2.1, ((AT a0 (AG a2) (0, (0, (0, (false, ()))))).2.2.2.1, ()))))), a1, (IntKind.wrap .i64 (a2 - 1)), ()))
 | false => some (.inr (.inl (a0, ())))
abbrev AMi : AE := [(.obj 0, .own 44 U0), (.tmp 0, .own' 0), (.tmp 2, .di), (.tmp 4, .clo 73 []), (.tmp 14, .di), (.tmp 15, .di)]
abbrev AMd : At := [(.exit 4, [(.obj 0, .own 44 U0), (.tmp 0, .own' 0), (.tmp 2, .di), (.tmp 14, .di)])]
def IG [Lk] (self : Ub → Option (Um)) : Ub → Option (Ub ⊕ Ul ⊕ Unit) := fun (a0, a1, a2, a3, _) =>
 match (ilt a2 a3) with
 | true => match shr? .u64 (IntKind.wrap .u64 (IntKind.wrap .i64 (a2 + a3))) 1 with
  | none => none
  | some x0 => match idx a0 a1 with
  | none => none
  | some x1 => match idx a0 (IntKind.wrap .i64 x0) with
  | none => none
  | some x2 => match Bq (((AT a0 (AG a1) (0, (0, (0, (false, ()))))).1, ((AT a0 (AG a1) (0, (0, (0, (false, ()))))).2.1, ((AT a0 (AG a1) (0, (0, (0, (false, ()))))).2.2.1, ((AT a0 (AG a1) (0, (0, (0, (false, ()))))).2.2.2.1, ())))), ((AT a0 (AG (IntKind.wrap .i64 x0)) (0, (0, (0, (false, ()))))).1, ((AT a0 (AG (IntKind.wrap .i64 x0)) (0, (0, (0, (false, ()))))).2.1, ((AT a0 (AG (IntKind.wrap .i64 x0)) (0, (0, (0, (false, ()))))).2.2.1, ((AT a0 (AG (IntKind.wrap .i64 x0)) (0, (0, (0, (false, ()))))).2.2.2.1, ())))), ()) with
  | none => none
  | some (y3, _) => match (!(ilt y3 0)) with
  | true => some (.inl (a0, a1, (IntKind.wrap .i64 ((IntKind.wrap .i64 x0) + 1)), a3, ()))
  | false => some (.inl (a0, a1, a2, (IntKind.wrap .i64 x0), ()))
 | false => some (.inr (.inl (a0, a1, a2, ())))
abbrev AMj : AE := [(.obj 0, .own 44 U0), (.tmp 0, .own' 0), (.tmp 10, .di), (.tmp 13, .di)]
abbrev AMe : At := [(.exit 2, [(.obj 0, .own 44 U0)])]
def IH [Lk] (self : Ub → Option (Um)) : Ul → Option (Ul ⊕ Um ⊕ Unit) := fun (a0, a1, a2, _) =>
 match (ilt a2 (IntKind.wrap .i64 (a1 - 1))) with
 | true => match idx a0 (IntKind.wrap .i64 (a2 + 1)) with
  | none => none
  | some x0 => match idx a0 a2 with
  | none => none
  | some x1 => match idx a0 a2 with
  | none => none
  | some x2 => match idx (Ak a0 (AG a2) ((AT a0 (AG (IntKind.wrap .i64 (a2 + 1))) (0, (0, (0, (false, ()))))).1, ((AT a0 (AG (IntKind.wrap .i64 (a2 + 1))) (0, (0, (0, (false, ()))))).2.1, ((AT a0 (AG (IntKind.wrap .i64 (a2 + 1))) (0, (0, (0, (false, ()))))).2.2.1, ((AT a0 (AG (IntKind.wrap .i64 (a2 + 1))) (0, (0, (0, (false, ()))))).2.2.2.1, ()))))) (IntKind.wrap .i64 (a2 + 1)) with
  | none => none
  | some x3 => some (.inl ((Ak (Ak a0 (AG a2) ((AT a0 (AG (IntKind.wrap .i64 (a2 + 1))) (0, (0, (0, (false, ()))))).1, ((AT a0 (AG (IntKind.wrap .i64 (a2 + 1))) (0, (0, (0, (false, ()))))).2.1, ((AT a0 (AG (IntKind.wrap .i64 (a2 + 1))) (0, (0, (0, (false, ()))))).2.2.1, ((AT a0 (AG (IntKind.wrap .i64 (a2 + 1))) (0, (0, (0, (false, ()))))).2.2.2.1, ()))))) (AG (IntKind.wrap .i64 (a2 + 1))) ((AT a0 (AG a2) (0, (0, (0, (false, ()))))).1, ((AT a0 (AG a2) (0, (0, (0, (false, ()))))).2.1, ((AT a0 (AG a2) (0, (0, (0, (false, ()))))).2.2.1, ((AT a0 (AG a2) (0, (0, (0, (false, ()))))).2.2.2.1, ()))))), a1, (IntKind.wrap .i64 (a2 + 1)), ()))
 | false => some (.inr (.inl (a0, ())))
abbrev AMk : AE := [(.obj 0, .own 44 U0), (.tmp 0, .own' 0), (.tmp 1, .di), (.tmp 4, .clo 73 []), (.tmp 10, .di), (.tmp 11, .di)]
abbrev AMf : At := [(.exit 0, [(.obj 0, .own 44 U0), (.tmp 0, .own' 0), (.tmp 1, .di), (.tmp 10, .di)])]
def II [Lk] (self : Ub → Option (Um)) : Ub → Option (Ub ⊕ Ul ⊕ Unit) := fun (a0, a1, a2, a3, _) =>
 match (ilt a2 a3) with
 | true => match shr? .u64 (IntKind.wrap .u64 (IntKind.wrap .i64 (a2 + a3))) 1 with
  | none => none
  | some x0 => match idx a0 (IntKind.wrap .i64 x0) with
  | none => none
  | some x1 => match idx a0 a1 with
  | none => none
  | some x2 => match Bq (((AT a0 (AG (IntKind.wrap .i64 x0)) (0, (0, (0, (false, ()))))).1, ((AT a0 (AG (IntKind.wrap .i64 x0)) (0, (0, (0, (false, ()))))).2.1, ((AT a0 (AG (IntKind.wrap .i64 x0)) (0, (0, (0, (false, ()))))).2.2.1, ((AT a0 (AG (IntKind.wrap .i64 x0)) (0, (0, (0, (false, ()))))).2.2.2.1, ())))), ((AT a0 (AG a1) (0, (0, (0, (false, ()))))).1, ((AT a0 (AG a1) (0, (0, (0, (false, ()))))).2.1, ((AT a0 (AG a1) (0, (0, (0, (false, ()))))).2.2.1, ((AT a0 (AG a1) (0, (0, (0, (false, ()))))).2.2.2.1, ())))), ()) with
  | none => none
  | some (y3, _) => match (ilt y3 0) with
  | true => some (.inl (a0, a1, (IntKind.wrap .i64 ((IntKind.wrap .i64 x0) + 1)), a3, ()))
  | false => some (.inl (a0, a1, a2, (IntKind.wrap .i64 x0), ()))
 | false => some (.inr (.inl (a0, a1, a2, ())))
def JO [Lk] (self : Ub → Option (Um)) : Ub → Option (Um) := fun (a0, a1, a2, a3, _) =>
 match (ieq (IntKind.wrap .i64 (a2 - a1)) 1) with
 | true => match AR (II self) many (a0, a1, a2, a3, ()) with
  | none => none
  | some r => match r with
  | .inl (o0, o1, o2, _) => match AR (IH self) many (o0, o2, o1, ()) with
   | none => none
   | some r => match r with
   | .inl (o3, _) => some (o3, ())
   | .inr _ => none
  | .inr _ => none
 | false => match (ieq (IntKind.wrap .i64 (a3 - a2)) 1) with
 | true => match AR (IG self) many (a0, a2, a1, a2, ()) with
  | none => none
  | some r => match r with
  | .inl (o4, o5, o6, _) => match AR (IF self) many (o4, o6, o5, ()) with
   | none => none
   | some r => match r with
   | .inl (o7, _) => some (o7, ())
   | .inr _ => none
  | .inr _ => none
 | false => match shr? .u64 (IntKind.wrap .u64 (IntKind.wrap .i64 (a1 + a3))) 1 with
 | none => none
 | some x8 => match (ilt (IntKind.wrap .i64 x8) a2) with
 | true => match AR (Dp self) many (a0, a1, a2, a3, (IntKind.wrap .i64 x8), (IntKind.wrap .i64 ((IntKind.wrap .i64 x8) + a2)), (IntKind.wrap .i64 ((IntKind.wrap .i64 ((IntKind.wrap .i64 x8) + a2)) - a3)), (IntKind.wrap .i64 x8), (IntKind.wrap .i64 ((IntKind.wrap .i64 ((IntKind.wrap .i64 x8) + a2)) - 1)), ()) with
  | none => none
  | some r => match r with
  | .inl (o9, o10, o11, o12, o13, o14, o15, _) => match (ilt o15 o11) with
   | true => match (ilt o11 (IntKind.wrap .i64 (o14 - o15))) with
    | true => match AJj (o9, o15, o11, (IntKind.wrap .i64 (o14 - o15)), ()) with
     | none => none
     | some (y16, _) => match (ilt o10 o15) with
     | true => match (ilt o15 o13) with
      | true => match self (y16, o10, o15, o13, ()) with
       | none => none
       | some (y17, _) => match (ilt o13 (IntKind.wrap .i64 (o14 - o15))) with
       | true => match (ilt (IntKind.wrap .i64 (o14 - o15)) o12) with
        | true => match self (y17, o13, (IntKind.wrap .i64 (o14 - o15)), o12, ()) with
         | none => none
         | some (y18, _) => some (y18, ())
        | false => some (y17, ())
       | false => some (y17, ())
      | false => match (ilt o13 (IntKind.wrap .i64 (o14 - o15))) with
      | true => match (ilt (IntKind.wrap .i64 (o14 - o15)) o12) with
       | true => match self (y16, o13, (IntKind.wrap .i64 (o14 - o15)), o12, ()) with
        | none => none
        | some (y19, _) => some (y19, ())
       | false => some (y16, ())
      | false => some (y16, ())
     | false => match (ilt o13 (IntKind.wrap .i64 (o14 - o15))) with
     | true => match (ilt (IntKind.wrap .i64 (o14 - o15)) o12) with
      | true => match self (y16, o13, (IntKind.wrap .i64 (o14 - o15)), o12, ()) with
       | none => none
       | some (y20, _) => some (y20, ())
      | false => some (y16, ())
     | false => some (y16, ())
    | false => match (ilt o10 o15) with
    | true => match (ilt o15 o13) with
     | true => match self (o9, o10, o15, o13, ()) with
      | none => none
      | some (y21, _) => match (ilt o13 (IntKind.wrap .i64 (o14 - o15))) with
      | true => match (ilt (IntKind.wrap .i64 (o14 - o15)) o12) with
       | true => match self (y21, o13, (IntKind.wrap .i64 (o14 - o15)), o12, ()) with
        | none => none
        | some (y22, _) => some (y22, ())
       | false => some (y21, ())
      | false => some (y21, ())
     | false => match (ilt o13 (IntKind.wrap .i64 (o14 - o15))) with
     | true => match (ilt (IntKind.wrap .i64 (o14 - o15)) o12) with
      | true => match self (o9, o13, (IntKind.wrap .i64 (o14 - o15)), o12, ()) with
       | none => none
       | some (y23, _) => some (y23, ())
      | false => some (o9, ())
     | false => some (o9, ())
    | false => match (ilt o13 (IntKind.wrap .i64 (o14 - o15))) with
    | true => match (ilt (IntKind.wrap .i64 (o14 - o15)) o12) with
     | true => match self (o9, o13, (IntKind.wrap .i64 (o14 - o15)), o12, ()) with
      | none => none
      | some (y24, _) => some (y24, ())
     | false => some (o9, ())
    | false => some (o9, ())
   | false => match (ilt o10 o15) with
   | true => match (ilt o15 o13) with
    | true => match self (o9, o10, o15, o13, ()) with
     | none => none
     | some (y25, _) => match (ilt o13 (IntKind.wrap .i64 (o14 - o15))) with
     | true => match (ilt (IntKind.wrap .i64 (o14 - o15)) o12) with
      | true => match self (y25, o13, (IntKind.wrap .i64 (o14 - o15)), o12, ()) with
       | none => none
       | some (y26, _) => some (y26, ())
      | false => some (y25, ())
     | false => some (y25, ())
    | false => match (ilt o13 (IntKind.wrap .i64 (o14 - o15))) with
    | true => match (ilt (IntKind.wrap .i64 (o14 - o15)) o12) with
     | true => match self (o9, o13, (IntKind.wrap .i64 (o14 - o15)), o12, ()) with
      | none => none
      | some (y27, _) => some (y27, ())
     | false => some (o9, ())
    | false => some (o9, ())
   | false => match (ilt o13 (IntKind.wrap .i64 (o14 - o15))) with
   | true => match (ilt (IntKind.wrap .i64 (o14 - o15)) o12) with
    | true => match self (o9, o13, (IntKind.wrap .i64 (o14 - o15)), o12, ()) with
     | none => none
     | some (y28, _) => some (y28, ())
    | false => some (o9, ())
   | false => some (o9, ())
  | .inr _ => none
 | false => match AR (Dp self) many (a0, a1, a2, a3, (IntKind.wrap .i64 x8), (IntKind.wrap .i64 ((IntKind.wrap .i64 x8) + a2)), a1, a2, (IntKind.wrap .i64 ((IntKind.wrap .i64 ((IntKind.wrap .i64 x8) + a2)) - 1)), ()) with
 | none => none
 | some r => match r with
 | .inl (o29, o30, o31, o32, o33, o34, o35, _) => match (ilt o35 o31) with
  | true => match (ilt o31 (IntKind.wrap .i64 (o34 - o35))) with
   | true => match AJj (o29, o35, o31, (IntKind.wrap .i64 (o34 - o35)), ()) with
    | none => none
    | some (y36, _) => match (ilt o30 o35) with
    | true => match (ilt o35 o33) with
     | true => match self (y36, o30, o35, o33, ()) with
      | none => none
      | some (y37, _) => match (ilt o33 (IntKind.wrap .i64 (o34 - o35))) with
      | true => match (ilt (IntKind.wrap .i64 (o34 - o35)) o32) with
       | true => match self (y37, o33, (IntKind.wrap .i64 (o34 - o35)), o32, ()) with
        | none => none
        | some (y38, _) => some (y38, ())
       | false => some (y37, ())
      | false => some (y37, ())
     | false => match (ilt o33 (IntKind.wrap .i64 (o34 - o35))) with
     | true => match (ilt (IntKind.wrap .i64 (o34 - o35)) o32) with
      | true => match self (y36, o33, (IntKind.wrap .i64 (o34 - o35)), o32, ()) with
       | none => none
       | some (y39, _) => some (y39, ())
      | false => some (y36, ())
     | false => some (y36, ())
    | false => match (ilt o33 (IntKind.wrap .i64 (o34 - o35))) with
    | true => match (ilt (IntKind.wrap .i64 (o34 - o35)) o32) with
     | true => match self (y36, o33, (IntKind.wrap .i64 (o34 - o35)), o32, ()) with
      | none => none
      | some (y40, _) => some (y40, ())
     | false => some (y36, ())
    | false => some (y36, ())
   | false => match (ilt o30 o35) with
   | true => match (ilt o35 o33) with
    | true => match self (o29, o30, o35, o33, ()) with
     | none => none
     | some (y41, _) => match (ilt o33 (IntKind.wrap .i64 (o34 - o35))) with
     | true => match (ilt (IntKind.wrap .i64 (o34 - o35)) o32) with
      | true => match self (y41, o33, (IntKind.wrap .i64 (o34 - o35)), o32, ()) with
       | none => none
       | some (y42, _) => some (y42, ())
      | false => some (y41, ())
     | false => some (y41, ())
    | false => match (ilt o33 (IntKind.wrap .i64 (o34 - o35))) with
    | true => match (ilt (IntKind.wrap .i64 (o34 - o35)) o32) with
     | true => match self (o29, o33, (IntKind.wrap .i64 (o34 - o35)), o32, ()) with
      | none => none
      | some (y43, _) => some (y43, ())
     | false => some (o29, ())
    | false => some (o29, ())
   | false => match (ilt o33 (IntKind.wrap .i64 (o34 - o35))) with
   | true => match (ilt (IntKind.wrap .i64 (o34 - o35)) o32) with
    | true => match self (o29, o33, (IntKind.wrap .i64 (o34 - o35)), o32, ()) with
     | none => none
     | some (y44, _) => some (y44, ())
    | false => some (o29, ())
   | false => some (o29, ())
  | false => match (ilt o30 o35) with
  | true => match (ilt o35 o33) with
   | true => match self (o29, o30, o35, o33, ()) with
    | none => none
    | some (y45, _) => match (ilt o33 (IntKind.wrap .i64 (o34 - o35))) with
    | true => match (ilt (IntKind.wrap .i64 (o34 - o35)) o32) with
     | true => match self (y45, o33, (IntKind.wrap .i64 (o34 - o35)), o32, ()) with
      | none => none
      | some (y46, _) => some (y46, ())
     | false => some (y45, ())
    | false => some (y45, ())
   | false => match (ilt o33 (IntKind.wrap .i64 (o34 - o35))) with
   | true => match (ilt (IntKind.wrap .i64 (o34 - o35)) o32) with
    | true => match self (o29, o33, (IntKind.wrap .i64 (o34 - o35)), o32, ()) with
     | none => none
     | some (y47, _) => some (y47, ())
    | false => some (o29, ())
   | false => some (o29, ())
  | false => match (ilt o33 (IntKind.wrap .i64 (o34 - o35))) with
  | true => match (ilt (IntKind.wrap .i64 (o34 - o35)) o32) with
   | true => match self (o29, o33, (IntKind.wrap .i64 (o34 - o35)), o32, ()) with
    | none => none
    | some (y48, _) => some (y48, ())
   | false => some (o29, ())
  | false => some (o29, ())
 | .inr _ => none
def GD [Lk] : Nat → Ub → Option (Um)
 | 0, _ => none
 | n + 1, v => JO (GD n) v
def AIt [Lk] := fun v => Lk.f (GD 100 v)
theorem AMl v : AIt v = GD 100 v := AK _
end
end Go.Pev
end
section
namespace Go.Pev
set_option maxRecDepth 100000
noncomputable section
attribute [local irreducible] LY Im MS LP ATa ATb ATd R6 YU UL YO Iv AU many IntKind.wrap AQ Ak AT BX Cz Eg KE AG CM DT imax Ac Ai
abbrev ABQ : AE := [(.tmp 0, .own 44 U0), (.tmp 1, .di), (.tmp 2, .clo 73 [])]
abbrev ABP : AE := [(.obj 0, .own 44 U0)]
abbrev ABO : List RS := []
abbrev AFH : AE := [(.obj 0, .own 44 U0), (.tmp 0, .own' 0), (.tmp 1, .di), (.tmp 2, .clo 73 []), (.tmp 6, .di), (.tmp 7, .di), (.tmp 8, .di)]
abbrev AFE : At := [(.exit 4, [(.obj 0, .own 44 U0), (.tmp 0, .own' 0), (.tmp 1, .di), (.tmp 2, .clo 73 []), (.tmp 6, .di), (.tmp 7, .di)])]
def JP [Lk] : Uj → Option (Uj ⊕ Ub ⊕ Unit) := fun (a0, a1, a2, a3, a4, _) =>
 match (ile a4 a1) with
 | true => match AIt (a0, a3, (IntKind.wrap .i64 (a3 + a2)), a4, ()) with
  | none => none
  | some (y0, _) => some (.inl (y0, a1, a2, a4, (IntKind.wrap .i64 (a4 + (IntKind.wrap .i64 (2 * a2)))), ()))
 | false => some (.inr (.inl (a0, a1, a2, a3, ())))
abbrev AFI : AE := [(.obj 0, .own 44 U0), (.tmp 0, .own' 0), (.tmp 1, .di), (.tmp 2, .clo 73 []), (.tmp 6, .di)]
abbrev AFF : At := [(.exit 2, [(.obj 0, .own 44 U0)])]
def Dq [Lk] : Ul → Option (Ul ⊕ Um ⊕ Unit) := fun (a0, a1, a2, _) =>
 match (ilt a2 a1) with
 | true => match AR JP many (a0, a1, a2, 0, (IntKind.wrap .i64 (2 * a2)), ()) with
  | none => none
  | some r => match r with
  | .inl (o0, o1, o2, o3, _) => match (ilt (IntKind.wrap .i64 (o3 + o2)) o1) with
   | true => match AIt (o0, o3, (IntKind.wrap .i64 (o3 + o2)), o1, ()) with
    | none => none
    | some (y4, _) => some (.inl (y4, o1, (IntKind.wrap .i64 (o2 * 2)), ()))
   | false => some (.inl (o0, o1, (IntKind.wrap .i64 (o2 * 2)), ()))
  | .inr _ => none
 | false => some (.inr (.inl (a0, ())))
abbrev AFJ : AE := [(.obj 0, .own 44 U0), (.tmp 0, .own' 0), (.tmp 1, .di), (.tmp 2, .clo 73 []), (.tmp 6, .di), (.tmp 7, .di), (.tmp 8, .di)]
abbrev AFG : At := [(.exit 0, [(.obj 0, .own 44 U0), (.tmp 0, .own' 0), (.tmp 1, .di), (.tmp 2, .clo 73 []), (.tmp 6, .di), (.tmp 7, .di)])]
def GG [Lk] : Uj → Option (Uj ⊕ Ub ⊕ Unit) := fun (a0, a1, a2, a3, a4, _) =>
 match (ile a4 a1) with
 | true => match Yn (a0, a3, a4, ()) with
  | none => none
  | some (y0, _) => some (.inl (y0, a1, a2, a4, (IntKind.wrap .i64 (a4 + a2)), ()))
 | false => some (.inr (.inl (a0, a1, a2, a3, ())))
def Sc [Lk] : (List U1 × Int × Unit) → Option (Um) := fun (a0, a1, _) =>
 match AR GG many (a0, a1, 20, 0, 20, ()) with
 | none => none
 | some r => match r with
 | .inl (o0, o1, o2, o3, _) => match Yn (o0, o3, o1, ()) with
  | none => none
  | some (y4, _) => match AR Dq many (y4, o1, o2, ()) with
  | none => none
  | some r => match r with
  | .inl (o5, _) => some (o5, ())
  | .inr _ => none
 | .inr _ => none
def AMo [Lk] := fun v => Lk.f (Sc v)
theorem AFK v : AMo v = Sc v := AK _
abbrev Tn : AE := [(.tmp 0, .own 44 U0), (.tmp 1, .clo 73 [])]
abbrev Tm : AE := [(.obj 0, .own 44 U0)]
abbrev Tl : List RS := []
def NJ [Lk] : Um → Option (Um) := fun (a0, _) =>
 match AMo (a0, (AQ a0), ()) with
 | none => none
 | some (y0, _) => some (y0, ())
def To [Lk] := fun v => Lk.f (NJ v)
theorem ZL v : To v = NJ v := AK _
abbrev Tf : AE := [(.tmp 0, .di), (.tmp 1, .dat Un)]
abbrev Te : AE := [(.tmp 0, .own 42 U6), (.tmp 1, .di)]
abbrev Td : List RS := [.one, .one]
abbrev ZJ : AE := [(.tmp 1, .dat Un), (.tmp 7, .own 42 U6), (.tmp 19, .own 4 .bool), (.tmp 20, .di), (.tmp 21, .di)]
abbrev ZI : At := [(.exit 0, [(.tmp 7, .own 42 U6)])]
def Dd [Lk] : (List U3 × List U3 × List Bool × Int × Int × Unit) → Option ((List U3 × List U3 × List Bool × Int × Int × Unit) ⊕ Uw ⊕ Unit) := fun (a0, a1, a2, a3, a4, _) =>
 match (ilt a4 a3) with
 | true => match idx a2 a4 with
  | none => none
  | some x0 => match (AT a2 (AG a4) false) with
  | true => match idx a0 a4 with
   | none => none
   | some x1 => match (fits ((AQ a1) + (AQ ([(x1.1, (x1.2.1, ()))] : List U3)))) with
   | true => some (.inl (a0, (BX a1 ([(x1.1, (x1.2.1, ()))] : List U3)), a2, a3, (IntKind.wrap .i64 (a4 + 1)), ()))
   | false => none
  | false => some (.inl (a0, a1, a2, a3, (IntKind.wrap .i64 (a4 + 1)), ()))
 | false => some (.inr (.inl (a1, ())))
def NA [Lk] : Ux → Option ((List U3 × Int × Unit)) := fun (a0, a1, _) =>
 match Pd (a0, a1, ()) with
 | none => none
 | some (y0, _) => match (!(ieq y0 0)) with
 | true => some (([] : List U3), y0, ())
 | false => match Pf (a0, ()) with
 | none => none
 | some (y1, _) => match Pa (y1, a1, ()) with
 | none => none
 | some (y2, y3, _) => match AR Dd many (a1, ([] : List U3), y3, (AQ y3), 0, ()) with
 | none => none
 | some r => match r with
 | .inl (o4, _) => some (o4, 0, ())
 | .inr _ => none
def Th [Lk] := fun v => Lk.f (NA v)
theorem ZK v : Th v = NA v := AK _
abbrev T2 : AE := [(.tmp 0, .dat Ud)]
abbrev T1 : AE := [(.tmp 0, .dat .bool)]
abbrev Tz : List RS := [.one]
def JT [Lk] : Uv → Option (Uh) := fun (a0, _) =>
 match Ih ((a0.1, (a0.2.1, ())), 0, ()) with
 | none => none
 | some (y0, y1, _) => match (!(ieq y1 0)) with
 | true => some (false, ())
 | false => match We ((a0.1, (a0.2.1, ())), ()) with
 | none => none
 | some (y2, _) => match UR (a0.1, y2, ()) with
 | none => none
 | some (y3, y4, _) => some ((ieq (AQ y0.2.1) y3), ())
def IM [Lk] := fun v => Lk.f (JT v)
theorem PN v : IM v = JT v := AK _
abbrev Ja : AE := [(.tmp 0, .dat Ud)]
abbrev JZ : AE := [(.tmp 0, .own 52 U9)]
abbrev JY : List RS := [.one]
abbrev NR : AE := [(.tmp 1, .box 2), (.cell 0 0, .di), (.cell 0 1, .dat Ur), (.tmp 3, .own 52 U9), (.tmp 4, .di)]
abbrev NQ : At := [(.ret, [(.tmp 2, .nil U9)]), (.exit 0, [(.tmp 3, .own 52 U9)])]
def CC [Lk] : (Int × List U1 × List Ua × Int × Unit) → Option ((Int × List U1 × List Ua × Int × Unit) ⊕ (Unit) ⊕ (List Ua × Unit) ⊕ Unit) := fun (a0, a1, a2, a3, _) =>
 match Yi (a0, ()) with
 | none => none
 | some (y0, _) => match (ile a3 y0) with
 | true => match Ih ((a0, (a1, ())), a3, ()) with
  | none => none
  | some (y1, y2, _) => match (!(ieq y2 0)) with
  | true => some (.inr (.inl ()))
  | false => match (fits ((AQ a2) + (AQ ([(y1.1, (y1.2.1, ()))] : List Ua)))) with
  | true => some (.inl (a0, a1, (BX a2 ([(y1.1, (y1.2.1, ()))] : List Ua)), (IntKind.wrap .i64 (a3 + 1)), ()))
  | false => none
 | false => some (.inr (.inr (.inl (a2, ()))))
def Gr [Lk] : Uv → Option ((List Ua × Unit)) := fun (a0, _) =>
 match AR CC many (a0.1, a0.2.1, ([] : List Ua), 0, ()) with
 | none => none
 | some r => match r with
 | .inl _ => some (([] : List Ua), ())
 | .inr r => match r with
 | .inl (o0, _) => some (o0, ())
 | .inr _ => none
def Fq [Lk] := fun v => Lk.f (Gr v)
theorem NS v : Fq v = Gr v := AK _
abbrev HV : AE := [(.tmp 0, .dat Ur), (.cap 1 0, .box 1), (.cell 0 0, .dat (.slice U9)), (.tmp 1, .clo 81 [(0, 0)])]
abbrev HU : AE := [(.obj 0, .box 1), (.cell 0 0, .dat (.slice U9)), (.tmp 0, .di)]
abbrev HT : List RS := [.one]
abbrev J1 : AE := [(.obj 0, .box 1), (.cell 0 0, .dat (.slice U9)), (.tmp 0, .dat Ur), (.tmp 1, .clo 81 [(0, 0)]), (.tmp 7, .di), (.tmp 8, .di)]
abbrev J0 : At := [(.ret, [(.obj 0, .box 1), (.cell 0 0, .dat (.slice U9)), (.tmp 4, .di)]), (.exit 0, [(.obj 0, .box 1), (.cell 0 0, .dat (.slice U9))])]
def Bl [Lk] : (List Ua × List U1 × Int × Int × Unit) → Option ((List Ua × List U1 × Int × Int × Unit) ⊕ (List Ua × Int × Unit) ⊕ (List Ua × Unit) ⊕ Unit) := fun (a0, a1, a2, a3, _) =>
 match (ilt a3 a2) with
 | true => match idx a1 a3 with
  | none => none
  | some x0 => match idx a0 x0.2.2.1 with
  | none => none
  | some x1 => match AHZ ((x1.1, (x1.2.1, ())), x0.1, x0.2.1, ()) with
  | none => none
  | some (y2, y3, _) => match (!x0.2.2.2.1) with
  | true => match (!y2) with
   | true => some (.inr (.inl (a0, a3, ())))
   | false => some (.inl (a0, a1, a2, (IntKind.wrap .i64 (a3 + 1)), ()))
  | false => some (.inl (a0, a1, a2, (IntKind.wrap .i64 (a3 + 1)), ()))
 | false => some (.inr (.inr (.inl (a0, ()))))
def Ex [Lk] : (List U1 × List Ua × Unit) → Option ((List Ua × Int × Unit)) := fun (a0, a1, _) =>
 match AR Bl many (a1, a0, (AQ a0), 0, ()) with
 | none => none
 | some r => match r with
 | .inl (o0, o1, _) => some (o0, o1, ())
 | .inr r => match r with
 | .inl (o2, _) => some (o2, (-1 : Int), ())
 | .inr _ => none
def Gy [Lk] := fun v => Lk.f (Ex v)
theorem J2 v : Gy v = Ex v := AK _
abbrev GX : AE := [(.tmp 0, .dat Ur), (.cap 1 0, .box 1), (.cell 0 0, .dat (.slice U9)), (.tmp 1, .clo 81 [(0, 0)])]
abbrev GW : AE := [(.obj 0, .box 1), (.cell 0 0, .dat (.slice U9)), (.tmp 0, .dat .bool)]
abbrev GV : List RS := [.one]
def D2 [Lk] : (List U1 × List Ua × Unit) → Option ((List Ua × Bool × Unit)) := fun (a0, a1, _) =>
 match Gy (a0, a1, ()) with
 | none => none
 | some (y0, y1, _) => some (y0, (ile 0 y1), ())
def Fe [Lk] := fun v => Lk.f (D2 v)
theorem JH v : Fe v = D2 v := AK _
abbrev PV : AE := [(.tmp 0, .dat Ud)]
abbrev PU : AE := [(.tmp 0, .dat .bool)]
abbrev PT : List RS := [.one]
def Ko [Lk] : Uv → Option (Uh) := fun (a0, _) =>
 match Fq ((a0.1, (a0.2.1, ())), ()) with
 | none => none
 | some (y0, _) => match (ieq (AQ y0) 0) with
 | true => some (false, ())
 | false => match Fe (a0.2.1, y0, ()) with
 | none => none
 | some (y1, y2, _) => some ((!y2), ())
def IN [Lk] := fun v => Lk.f (Ko v)
theorem T3 v : IN v = Ko v := AK _
abbrev JW : AE := [(.tmp 0, .dat Ud)]
abbrev JV : AE := [(.tmp 0, .dat .bool)]
abbrev JU : List RS := [.one]
abbrev NO : AE := [(.tmp 1, .box 2), (.cell 0 0, .di), (.cell 0 1, .dat Ur), (.tmp 3, .own 52 U9), (.tmp 4, .di), (.tmp 5, .box 2), (.cell 2 0, .di), (.cell 2 1, .dat Uk), (.tmp 11, .own' 1), (.tmp 12, .di), (.tmp 13, .di), (.tmp 19, .di), (.tmp 20, .di)]
abbrev NM : At := [(.ret, [(.tmp 2, .dat .bool)]), (.exit 2, [(.tmp 1, .box 2), (.cell 0 0, .di), (.cell 0 1, .dat Ur), (.tmp 3, .own 52 U9), (.tmp 11, .own' 1), (.tmp 12, .di), (.tmp 13, .di)])]
def IP [Lk] : V6 → Option (V6 ⊕ Uh ⊕ V1 ⊕ Unit) := fun (a0, a1, a2, a3, a4, a5, a6, a7, a8, a9, _) =>
 match (ilt a9 a8) with
 | true => match ANi ((a4, (a5, ())), a9, ()) with
  | none => none
  | some (y0, y1, _) => match shr? .i64 a0 (IntKind.wrap .u64 a3) with
  | none => none
  | some x2 => match (ilt (imax 1 x2) y0) with
  | true => some (.inr (.inl (false, ())))
  | false => some (.inl (a0, a1, a2, a3, a4, a5, a6, a7, a8, (IntKind.wrap .i64 (a9 + 1)), ()))
 | false => some (.inr (.inr (.inl (a0, a1, a2, a6, a7, ()))))
abbrev NP : AE := [(.tmp 1, .box 2), (.cell 0 0, .di), (.cell 0 1, .dat Ur), (.tmp 3, .own 52 U9), (.tmp 11, .own' 1), (.tmp 12, .di), (.tmp 13, .di)]
abbrev NN : At := [(.ret, [(.tmp 2, .dat .bool)]), (.exit 0, [(.tmp 3, .own 52 U9)])]
def IQ [Lk] : V1 → Option (V1 ⊕ Uh ⊕ (List Ua × Unit) ⊕ Unit) := fun (a0, a1, a2, a3, a4, _) =>
 match (ilt a4 a3) with
 | true => match idx a2 a4 with
  | none => none
  | some x0 => match AR IP many (a0, a1, a2, a4, (AT a2 (AG a4) (0, (([] : List U4), ()))).1, (AT a2 (AG a4) (0, (([] : List U4), ()))).2.1, a3, a4, a0, 0, ()) with
  | none => none
  | some r => match r with
  | .inl (o1, _) => some (.inr (.inl (o1, ())))
  | .inr r => match r with
  | .inl (o2, o3, o4, o5, o6, _) => some (.inl (o2, o3, o4, o5, (IntKind.wrap .i64 (o6 + 1)), ()))
  | .inr _ => none
 | false => some (.inr (.inr (.inl (a2, ()))))
def JX [Lk] : Uv → Option (Uh) := fun (a0, _) =>
 match Fq ((a0.1, (a0.2.1, ())), ()) with
 | none => none
 | some (y0, _) => match AR IQ many (a0.1, a0.2.1, y0, (AQ y0), 0, ()) with
 | none => none
 | some r => match r with
 | .inl (o1, _) => some (o1, ())
 | .inr r => match r with
 | .inl (o2, _) => some ((ilt 0 (AQ o2)), ())
 | .inr _ => none
def Fp [Lk] := fun v => Lk.f (JX v)
theorem ABo v : Fp v = JX v := AK _
abbrev PR : AE := [(.tmp 0, .dat Ud)]
abbrev PQ : AE := [(.tmp 0, .dat .bool)]
abbrev PO : List RS := [.one]
def PS [Lk] : Uv → Option (Uh) := fun (a0, _) =>
 match IM ((a0.1, (a0.2.1, ())), ()) with
 | none => none
 | some (y0, _) => match y0 with
 | true => match IN ((a0.1, (a0.2.1, ())), ()) with
  | none => none
  | some (y1, _) => match y1 with
  | true => match Fp ((a0.1, (a0.2.1, ())), ()) with
   | none => none
   | some (y2, _) => some (y2, ())
  | false => some (false, ())
 | false => some (false, ())
def Se [Lk] := fun v => Lk.f (PS v)
theorem AJF v : Se v = PS v := AK _
abbrev Tv : AE := [(.tmp 0, .dat Ud), (.tmp 1, .clo 85 [])]
abbrev Tu : AE := [(.tmp 0, .di)]
abbrev Tt : List RS := [.one]
abbrev ZQ : AE := [(.tmp 1, .clo 85 []), (.tmp 4, .di), (.tmp 11, .dat Ur), (.tmp 12, .di), (.tmp 13, .di)]
abbrev ZP : At := [(.exit 0, [(.tmp 4, .di)])]
def PM [Lk] : Uz → Option (Uz ⊕ U8 ⊕ Unit) := fun (a0, a1, a2, a3, _) =>
 match (ilt a3 a2) with
 | true => match idx a1 a3 with
  | none => none
  | some x0 => some (.inl ((IntKind.wrap .i64 (a0 + x0.2.2.1)), a1, a2, (IntKind.wrap .i64 (a3 + 1)), ()))
 | false => some (.inr (.inl (a0, ())))
def Tx [Lk] : Uv → Option (U8) := fun (a0, _) =>
 match ER ((a0.1, (a0.2.1, ())), ()) with
 | none => none
 | some (y0, _) => match (!y0) with
 | true => some (0, ())
 | false => match AR PM many (0, a0.2.1, (AQ a0.2.1), 0, ()) with
 | none => none
 | some r => match r with
 | .inl (o1, _) => some (o1, ())
 | .inr _ => none
def ABg [Lk] := fun v => Lk.f (Tx v)
theorem AOg v : ABg v = Tx v := AK _
abbrev Lv : AE := [(.tmp 0, .dat Ud)]
abbrev Lu : AE := [(.tmp 0, .di)]
abbrev Lt : List RS := [.one]
def Lw [Lk] : Uv → Option (U8) := fun (a0, _) =>
 match ABg ((a0.1, (a0.2.1, ())), ()) with
 | none => none
 | some (y0, _) => some (y0, ())
def NL [Lk] := fun v => Lk.f (Lw v)
theorem AFX v : NL v = Lw v := AK _
abbrev Tr : AE := [(.tmp 0, .dat Ud), (.tmp 1, .clo 86 [])]
abbrev Tq : AE := [(.tmp 0, .di)]
abbrev Tp : List RS := [.one]
abbrev ZN : AE := [(.tmp 1, .clo 86 []), (.tmp 4, .di), (.tmp 11, .dat Ur), (.tmp 12, .di), (.tmp 13, .di)]
abbrev ZM : At := [(.exit 0, [(.tmp 4, .di)])]
def EF [Lk] : Uz → Option (Uz ⊕ U8 ⊕ Unit) := fun (a0, a1, a2, a3, _) =>
 match (ilt a3 a2) with
 | true => match idx a1 a3 with
  | none => none
  | some x0 => match x0.2.2.2.1 with
  | true => some (.inl ((IntKind.wrap .i64 (a0 + x0.2.2.1)), a1, a2, (IntKind.wrap .i64 (a3 + 1)), ()))
  | false => some (.inl (a0, a1, a2, (IntKind.wrap .i64 (a3 + 1)), ()))
 | false => some (.inr (.inl (a0, ())))
def NK [Lk] : Uv → Option (U8) := fun (a0, _) =>
 match ER ((a0.1, (a0.2.1, ())), ()) with
 | none => none
 | some (y0, _) => match (!y0) with
 | true => some (0, ())
 | false => match AR EF many (0, a0.2.1, (AQ a0.2.1), 0, ()) with
 | none => none
 | some r => match r with
 | .inl (o1, _) => some (o1, ())
 | .inr _ => none
def ABe [Lk] := fun v => Lk.f (NK v)
theorem ZO v : ABe v = NK v := AK _
abbrev Ls : AE := [(.tmp 0, .dat Ud)]
abbrev Lr : AE := [(.tmp 0, .di)]
abbrev Lq : List RS := [.one]
def IL [Lk] : Uv → Option (U8) := fun (a0, _) =>
 match ABe ((a0.1, (a0.2.1, ())), ()) with
 | none => none
 | some (y0, _) => some (y0, ())
def GH [Lk] := fun v => Lk.f (IL v)
theorem Qy v : GH v = IL v := AK _
abbrev T8 : AE := [(.tmp 0, .dat Ud)]
abbrev T7 : AE := [(.tmp 0, .own 42 U6), (.tmp 1, .di)]
abbrev T6 : List RS := [.one, .one]
abbrev ZS : AE := [(.tmp 1, .box 2), (.cell 0 0, .di), (.cell 0 1, .dat Ur), (.tmp 5, .own 42 U6), (.tmp 16, .own 44 U0), (.tmp 17, .di), (.tmp 18, .di)]
abbrev ZR : At := [(.exit 0, [(.tmp 1, .box 2), (.cell 0 0, .di), (.cell 0 1, .dat Ur), (.tmp 5, .own 42 U6)])]
def C3 [Lk] : (Int × List U1 × List U3 × List U1 × Int × Int × Unit) → Option ((Int × List U1 × List U3 × List U1 × Int × Int × Unit) ⊕ (Int × List U1 × List U3 × Unit) ⊕ Unit) := fun (a0, a1, a2, a3, a4, a5, _) =>
 match (ilt a5 a4) with
 | true => match idx a3 a5 with
  | none => none
  | some x0 => match (fits ((AQ a2) + (AQ ([((AT a3 (AG a5) (0, (0, (0, (false, ()))))).1, ((AT a3 (AG a5) (0, (0, (0, (false, ()))))).2.1, ()))] : List U3)))) with
  | true => some (.inl (a0, a1, (BX a2 ([((AT a3 (AG a5) (0, (0, (0, (false, ()))))).1, ((AT a3 (AG a5) (0, (0, (0, (false, ()))))).2.1, ()))] : List U3)), a3, a4, (IntKind.wrap .i64 (a5 + 1)), ()))
  | false => none
 | false => some (.inr (.inl (a0, a1, a2, ())))
def NT [Lk] : Uv → Option ((List U3 × Int × Unit)) := fun (a0, _) =>
 match ER ((a0.1, (a0.2.1, ())), ()) with
 | none => none
 | some (y0, _) => match (!y0) with
 | true => some (([] : List U3), 1, ())
 | false => match ADt a0.2.1 with
 | none => none
 | some x1 => match To (x1, ()) with
 | none => none
 | some (y2, _) => match AR C3 many (a0.1, a0.2.1, ([] : List U3), y2, (AQ y2), 0, ()) with
 | none => none
 | some r => match r with
 | .inl (o3, o4, o5, _) => match Th (o3, o5, ()) with
  | none => none
  | some (y6, y7, _) => some (y6, y7, ())
 | .inr _ => none
def Lx [Lk] := fun v => Lk.f (NT v)
theorem ZT v : Lx v = NT v := AK _
abbrev Qg : AE := []
abbrev Qf : AE := [(.tmp 0, .dat .bool)]
abbrev Qe : List RS := [.one]
def Qh [Lk] : (Unit) → Option (Uh) := fun _ =>
 match Lx ((4, (([(0, (1, (0, (true, ())))), (0, (2, (0, (true, ())))), (1, (2, (1, (false, ()))))] : List U1), ())), ()) with
 | none => none
 | some (y0, y1, _) => match Lx ((0, (([] : List U1), ())), ()) with
 | none => none
 | some (y2, y3, _) => match (ieq y1 0) with
 | true => match (ieq y3 1) with
  | true => match Se ((4, (([(0, (1, (1, (true, ())))), (0, (2, (0, (true, ())))), (1, (2, (0, (false, ()))))] : List U1), ())), ()) with
   | none => none
   | some (y4, _) => match y4 with
   | true => match IN ((4, (([(0, (1, (0, (true, ())))), (0, (2, (0, (true, ())))), (1, (2, (1, (false, ()))))] : List U1), ())), ()) with
    | none => none
    | some (y5, _) => match (!y5) with
    | true => match IM ((4, (([(0, (1, (0, (true, ())))), (0, (2, (0, (true, ())))), (1, (2, (1, (false, ()))))] : List U1), ())), ()) with
     | none => none
     | some (y6, _) => match y6 with
     | true => match IM ((4, (([(0, (1, (0, (false, ()))))] : List U1), ())), ()) with
      | none => none
      | some (y7, _) => match (!y7) with
      | true => match Fp ((4, (([(0, (1, (0, (false, ()))))] : List U1), ())), ()) with
       | none => none
       | some (y8, _) => match y8 with
       | true => match Fp ((3, (([(0, (1, (1, (true, ()))))] : List U1), ())), ()) with
        | none => none
        | some (y9, _) => match (!y9) with
        | true => match NL ((4, (([(0, (1, (0, (true, ())))), (0, (2, (0, (true, ())))), (1, (2, (1, (false, ()))))] : List U1), ())), ()) with
         | none => none
         | some (y10, _) => match (ieq y10 1) with
         | true => match GH ((4, (([(0, (1, (0, (true, ())))), (0, (2, (0, (true, ())))), (1, (2, (1, (false, ()))))] : List U1), ())), ()) with
          | none => none
          | some (y11, _) => match (ieq y11 0) with
          | true => match GH ((4, (([(0, (1, (1, (true, ())))), (0, (2, (0, (true, ())))), (1, (2, (0, (false, ()))))] : List U1), ())), ()) with
           | none => none
           | some (y12, _) => match (ieq y12 1) with
           | true => match ACC (y0, ([(1, (2, ())), (0, (1, ()))] : List U3), ()) with
            | none => none
            | some (y13, _) => some (y13, ())
           | false => some (false, ())
          | false => some (false, ())
         | false => some (false, ())
        | false => some (false, ())
       | false => some (false, ())
      | false => some (false, ())
     | false => some (false, ())
    | false => some (false, ())
   | false => some (false, ())
  | false => some (false, ())
 | false => some (false, ())
def HC [Lk] := fun v => Lk.f (Qh v)
theorem AMI v : HC v = Qh v := AK _
abbrev QN : AE := [(.tmp 0, .dat Ud)]
abbrev QM : AE := [(.tmp 0, .dat .bool)]
abbrev QL : List RS := [.one]
def K2 [Lk] : Uv → Option (Uh) := fun (a0, _) =>
 match (ilt 30 (AQ a0.2.1)) with
 | true => some (true, ())
 | false => some ((ilt 12 a0.1), ())
def K3 [Lk] := fun v => Lk.f (K2 v)
theorem Wy v : K3 v = K2 v := AK _
abbrev Jx : AE := [(.tmp 0, .di), (.tmp 1, .dat Un)]
abbrev Jw : AE := [(.tmp 0, .own 42 U6)]
abbrev Jv : List RS := [.one]
abbrev Nx : AE := [(.tmp 0, .di), (.tmp 1, .dat Un), (.tmp 5, .own 3 U2), (.tmp 7, .own 42 U6), (.tmp 8, .di), (.tmp 9, .di), (.tmp 10, .di), (.tmp 11, .di)]
abbrev Nu : At := [(.exit 4, [(.tmp 0, .di), (.tmp 1, .dat Un), (.tmp 5, .own 3 U2), (.tmp 7, .own 42 U6), (.tmp 8, .di)])]
def Bt [Lk] : (Int × List U3 × List Int × List U3 × Int × Int × Int × Int × Unit) → Option ((Int × List U3 × List Int × List U3 × Int × Int × Int × Int × Unit) ⊕ V0 ⊕ Unit) := fun (a0, a1, a2, a3, a4, a5, a6, a7, _) =>
 match (ilt a7 a0) with
 | true => match idx a2 a7 with
  | none => none
  | some x0 => match (ieq (AT a2 (AG a7) 0) a5) with
  | true => match idx a2 a7 with
   | none => none
   | some x1 => some (.inl (a0, a1, (Ak a2 (AG a7) a6), a3, a4, a5, a6, (IntKind.wrap .i64 (a7 + 1)), ()))
  | false => some (.inl (a0, a1, a2, a3, a4, a5, a6, (IntKind.wrap .i64 (a7 + 1)), ()))
 | false => some (.inr (.inl (a0, a1, a2, a3, a4, ())))
abbrev Ny : AE := [(.tmp 0, .di), (.tmp 1, .dat Un), (.tmp 5, .own 3 U2), (.tmp 7, .own 42 U6), (.tmp 8, .di)]
abbrev Nv : At := [(.exit 2, [(.tmp 7, .own 42 U6)])]
def CJ [Lk] : V0 → Option (V0 ⊕ Uw ⊕ Unit) := fun (a0, a1, a2, a3, a4, _) =>
 match (ilt a4 (AQ a1)) with
 | true => match idx a1 a4 with
  | none => none
  | some x0 => match idx a2 x0.1 with
  | none => none
  | some x1 => match idx a1 a4 with
  | none => none
  | some x2 => match idx a2 x2.2.1 with
  | none => none
  | some x3 => match (ieq (AT a2 (AG x0.1) 0) (AT a2 (AG x2.2.1) 0)) with
  | true => some (.inl (a0, a1, a2, a3, (IntKind.wrap .i64 (a4 + 1)), ()))
  | false => match AR Bt many (a0, a1, a2, a3, a4, (AT a2 (AG x0.1) 0), (AT a2 (AG x2.2.1) 0), 0, ()) with
  | none => none
  | some r => match r with
  | .inl (o4, o5, o6, o7, o8, _) => match idx o5 o8 with
   | none => none
   | some x9 => match (fits ((AQ o7) + (AQ ([(x9.1, (x9.2.1, ()))] : List U3)))) with
   | true => some (.inl (o4, o5, o6, (BX o7 ([(x9.1, (x9.2.1, ()))] : List U3)), (IntKind.wrap .i64 (o8 + 1)), ()))
   | false => none
  | .inr _ => none
 | false => some (.inr (.inl (a3, ())))
abbrev Nz : AE := [(.tmp 0, .di), (.tmp 1, .dat Un), (.tmp 5, .own 3 U2), (.tmp 6, .di)]
abbrev Nw : At := [(.exit 0, [(.tmp 0, .di), (.tmp 1, .dat Un), (.tmp 5, .own 3 U2)])]
def CK [Lk] : Uy → Option (Uy ⊕ (Int × List U3 × List Int × Unit) ⊕ Unit) := fun (a0, a1, a2, a3, _) =>
 match (ilt a3 a0) with
 | true => match idx a2 a3 with
  | none => none
  | some x0 => some (.inl (a0, a1, (Ak a2 (AG a3) a3), (IntKind.wrap .i64 (a3 + 1)), ()))
 | false => some (.inr (.inl (a0, a1, a2, ())))
def Gx [Lk] : Ux → Option (Uw) := fun (a0, a1, _) =>
 match (Hv a0 && Hv a0 && ile a0 a0 && true) with
 | true => match AR CK many (a0, a1, (KE (AG a0) (0 : Int)), (0 : Int), ()) with
  | none => none
  | some r => match r with
  | .inl (o0, o1, o2, _) => match AR CJ many (o0, o1, o2, ([] : List U3), 0, ()) with
   | none => none
   | some r => match r with
   | .inl (o3, _) => some (o3, ())
   | .inr _ => none
  | .inr _ => none
 | false => none
def Hq [Lk] := fun v => Lk.f (Gx v)
theorem N0 v : Hq v = Gx v := AK _
end
end Go.Pev
end
section
namespace Go.Pev
set_option maxRecDepth 100000
noncomputable section
attribute [local irreducible] LY Im MS LP ATa ATb ATd R6 YU UL YO Iv AU many IntKind.wrap AQ Ak AT BX Cz Eg KE AG CM DT imax Ac Ai
abbrev JS : AE := [(.tmp 0, .dat Ud), (.tmp 1, .dat (.slice (.int .u8)))]
abbrev JR : AE := [(.tmp 0, .dat .bool)]
abbrev JQ : List RS := [.one]
abbrev NF : AE := [(.tmp 2, .box 2), (.cell 0 0, .di), (.cell 0 1, .dat Ur), (.tmp 5, .own 42 U6), (.tmp 7, .di), (.tmp 13, .di), (.tmp 14, .own 42 U6), (.tmp 15, .di)]
abbrev NB : At := [(.exit 4, [(.tmp 2, .box 2), (.cell 0 0, .di), (.cell 0 1, .dat Ur), (.tmp 5, .own 42 U6), (.tmp 7, .di), (.tmp 13, .di), (.tmp 14, .own 42 U6)])]
def Bo [Lk] : (Int × List U1 × List U3 × Int × Int × List U3 × Int × Unit) → Option ((Int × List U1 × List U3 × Int × Int × List U3 × Int × Unit) ⊕ (Int × List U1 × List U3 × Int × Int × List U3 × Unit) ⊕ Unit) := fun (a0, a1, a2, a3, a4, a5, a6, _) =>
 match (ilt a6 (AQ a5)) with
 | true => match idx a5 a6 with
  | none => none
  | some x0 => match idx a5 a6 with
  | none => none
  | some x1 => match Io ((a0, (a1, ())), (AT a5 (AG a6) (0, (0, ()))).1, (AT a5 (AG a6) (0, (0, ()))).2.1, ()) with
  | none => none
  | some (y2, _) => match idx a1 y2 with
  | none => none
  | some x3 => some (.inl (a0, a1, a2, a3, (IntKind.wrap .i64 (a4 + x3.2.2.1)), a5, (IntKind.wrap .i64 (a6 + 1)), ()))
 | false => some (.inr (.inl (a0, a1, a2, a3, a4, a5, ())))
abbrev NG : AE := [(.tmp 1, .dat (.slice (.int .u8))), (.tmp 2, .box 2), (.cell 0 0, .di), (.cell 0 1, .dat Ur), (.tmp 5, .own 42 U6), (.tmp 7, .di), (.tmp 10, .own 42 U6), (.tmp 11, .di)]
abbrev NC : At := [(.exit 2, [(.tmp 2, .box 2), (.cell 0 0, .di), (.cell 0 1, .dat Ur), (.tmp 5, .own 42 U6), (.tmp 7, .di), (.tmp 10, .own 42 U6)])]
def CB [Lk] : (List Int × Int × List U1 × List U3 × Int × List U3 × Int × Unit) → Option ((List Int × Int × List U1 × List U3 × Int × List U3 × Int × Unit) ⊕ (Int × List U1 × List U3 × Int × List U3 × Unit) ⊕ Unit) := fun (a0, a1, a2, a3, a4, a5, a6, _) =>
 match (ilt a6 (AQ a5)) with
 | true => match (ilt 0 (AQ a0)) with
  | true => match rem? a6 (AQ a0) with
   | none => none
   | some x0 => match idx a0 x0 with
   | none => none
   | some x1 => match rem? (IntKind.wrap .i64 x1) (AQ a5) with
   | none => none
   | some x2 => match idx a5 x2 with
   | none => none
   | some x3 => match idx a5 a6 with
   | none => none
   | some x4 => match idx a5 a6 with
   | none => none
   | some x5 => match idx (Ak a5 (AG a6) ((AT a5 (AG x2) (0, (0, ()))).1, ((AT a5 (AG x2) (0, (0, ()))).2.1, ()))) x2 with
   | none => none
   | some x6 => some (.inl (a0, a1, a2, a3, a4, (Ak (Ak a5 (AG a6) ((AT a5 (AG x2) (0, (0, ()))).1, ((AT a5 (AG x2) (0, (0, ()))).2.1, ()))) (AG x2) ((AT a5 (AG a6) (0, (0, ()))).1, ((AT a5 (AG a6) (0, (0, ()))).2.1, ()))), (IntKind.wrap .i64 (a6 + 1)), ()))
  | false => some (.inr (.inl (a1, a2, a3, a4, a5, ())))
 | false => some (.inr (.inl (a1, a2, a3, a4, a5, ())))
abbrev NH : AE := [(.tmp 1, .dat (.slice (.int .u8))), (.tmp 2, .box 2), (.cell 0 0, .di), (.cell 0 1, .dat Ur), (.tmp 5, .own 42 U6), (.tmp 7, .di), (.tmp 8, .di)]
abbrev ND : At := [(.ret, [(.tmp 4, .dat .bool)]), (.exit 0, [(.tmp 1, .dat (.slice (.int .u8))), (.tmp 2, .box 2), (.cell 0 0, .di), (.cell 0 1, .dat Ur), (.tmp 5, .own 42 U6), (.tmp 7, .di)])]
def Bp [Lk] : (List Int × Int × List U1 × List U3 × Int × Int × Unit) → Option ((List Int × Int × List U1 × List U3 × Int × Int × Unit) ⊕ Uh ⊕ (List Int × Int × List U1 × List U3 × Int × Unit) ⊕ Unit) := fun (a0, a1, a2, a3, a4, a5, _) =>
 match (ilt a5 (AQ a3)) with
 | true => match idx a3 a5 with
  | none => none
  | some x0 => match idx a3 a5 with
  | none => none
  | some x1 => match Io ((a1, (a2, ())), (AT a3 (AG a5) (0, (0, ()))).1, (AT a3 (AG a5) (0, (0, ()))).2.1, ()) with
  | none => none
  | some (y2, _) => match (ilt y2 0) with
  | true => some (.inr (.inl (false, ())))
  | false => match idx a2 y2 with
  | none => none
  | some x3 => some (.inl (a0, a1, a2, a3, (IntKind.wrap .i64 (a4 + x3.2.2.1)), (IntKind.wrap .i64 (a5 + 1)), ()))
 | false => some (.inr (.inr (.inl (a0, a1, a2, a3, a4, ()))))
def Gq [Lk] : (Uf × List Int × Unit) → Option (Uh) := fun (a0, a1, _) =>
 match HC () with
 | none => none
 | some (y0, _) => match (!y0) with
 | true => some (false, ())
 | false => match K3 ((a0.1, (a0.2.1, ())), ()) with
 | none => none
 | some (y1, _) => match y1 with
 | true => some (true, ())
 | false => match (ilt 30 (AQ a1)) with
 | true => some (true, ())
 | false => match IM ((a0.1, (a0.2.1, ())), ()) with
 | none => none
 | some (y2, _) => match (!y2) with
 | true => some (true, ())
 | false => match IN ((a0.1, (a0.2.1, ())), ()) with
 | none => none
 | some (y3, _) => match (!y3) with
 | true => some (true, ())
 | false => match Lx ((a0.1, (a0.2.1, ())), ()) with
 | none => none
 | some (y4, y5, _) => match (!(ieq y5 0)) with
 | true => some (false, ())
 | false => match AR Bp many (a1, a0.1, a0.2.1, y4, 0, 0, ()) with
 | none => none
 | some r => match r with
 | .inl (o6, _) => some (o6, ())
 | .inr r => match r with
 | .inl (o7, o8, o9, o10, o11, _) => match ON ((o8, (o9, ())), ()) with
  | none => none
  | some (y12, _) => match AR CB many (o7, o8, o9, o10, o11, y12, 0, ()) with
  | none => none
  | some r => match r with
  | .inl (o13, o14, o15, o16, o17, _) => match Hq (o13, o17, ()) with
   | none => none
   | some (y18, _) => match AR Bo many (o13, o14, o15, o16, 0, y18, 0, ()) with
   | none => none
   | some r => match r with
   | .inl (o19, o20, o21, o22, o23, o24, _) => match GH ((o19, (o20, ())), ()) with
    | none => none
    | some (y25, _) => match (ieq y25 o22) with
    | true => match (ile o23 o22) with
     | true => some ((ieq (AQ o24) (AQ o21)), ())
     | false => some (false, ())
    | false => some (false, ())
   | .inr _ => none
  | .inr _ => none
 | .inr _ => none
def Fm [Lk] := fun v => Lk.f (Gq v)
theorem NI v : Fm v = Gq v := AK _
end
end Go.Pev
end
section

end
section
namespace Go.Pev.Pl
theorem Ah {n : Int} (h : -9223372036854775808 ≤ n ∧ n ≤ 9223372036854775807) : IntKind.wrap .i64 n = n := IntWalk.i64_in n h
theorem AP6 {σ ρ : Type} {step : σ → Option (σ ⊕ ρ)} (I : σ → Prop) (Q : ρ → Prop) (m : σ → Nat)
  (h : ∀ v, I v → (∃ v', step v = some (.inl v') ∧ I v' ∧ m v' < m v) ∨ (∃ r, step v = some (.inr r) ∧ Q r)) :
  ∀ n v, I v → m v < n → ∃ r, AU step n v = some r ∧ Q r := by
 intro n
 induction n with
 | zero => intro v _ hn; omega
 | succ n ih =>
  intro v hv hn
  rcases h v hv with ⟨v', e, hi, hm⟩ | ⟨r, e, hq⟩
  ·rw [AU, e]
   exact ih v' hi (by omega)
  ·rw [AU, e]
   exact ⟨r, rfl, hq⟩
theorem AK8 {σ ρ : Type} {step : σ → Option (σ ⊕ ρ)} (I : σ → Prop) (Q : ρ → Prop) (m : σ → Nat)
  (h : ∀ v, I v → (∃ v', step v = some (.inl v') ∧ I v' ∧ m v' < m v) ∨ (∃ r, step v = some (.inr r) ∧ Q r))
  (v : σ) (hi : I v) (hm : m v < many) : ∃ r, AR step many v = some r ∧ Q r := by
 rw [Ag]
 exact AP6 I Q m h many v hi hm
section
set_option linter.unusedSectionVars false
variable {α : Type} [Inhabited α]
theorem Ar {d : Array α} {n : Nat} (h : n < d.size) : idx d.toList (n : Int) = some d[n]! := by
 rw [idx_eq, MS, if_neg (by omega)]
 simp [h]
theorem BJ {d : Array α} {n : Nat} {z : α} (h : n < d.size) : AT d.toList (AG (n : Int)) z = d[n]! := by
 simp [AT, AG, h]
theorem G8 {d : Array α} {n : Nat} {x : α} : Ak d.toList (AG (n : Int)) x = (d.setIfInBounds n x).toList := by
 simp [Ak, AG]
theorem ANq {d : Array α} : AQ d.toList = (d.size : Int) := by simp [AQ]
theorem Hh (d : Array α) (i j : Nat) : (d.setIfInBounds i d[j]!).setIfInBounds j d[i]! = Go.Sort.swp d i j := rfl
theorem size_swp (d : Array α) (i j : Nat) : (Go.Sort.swp d i j).size = d.size := by simp [Go.Sort.swp]
end
theorem AL (a b : Nat) : ilt (a : Int) (b : Int) = decide (a < b) := by rw [Aj]; simp
theorem Cc (a b : Nat) : ile (a : Int) (b : Int) = decide (a ≤ b) := by rw [A2]; simp
theorem Sq (a b : Nat) : ieq (a : Int) (b : Int) = decide (a = b) := by
 rw [HS]
 by_cases h : a = b
 ·simp [h]
 ·simp [h]; omega
section
theorem wrap_add {a b : Nat} (h : a + b < 9223372036854775808) : IntKind.wrap .i64 ((a : Int) + (b : Int)) = ((a + b : Nat) : Int) := by rw [Ah (by omega)]; omega
theorem AM {a : Nat} (h : a + 1 < 9223372036854775808) : IntKind.wrap .i64 ((a : Int) + 1) = ((a + 1 : Nat) : Int) := by rw [Ah (by omega)]; omega
theorem AN7 {a : Nat} (h : 2 * a < 9223372036854775808) : IntKind.wrap .i64 ((2 : Int) * (a : Int)) = ((2 * a : Nat) : Int) := by rw [Ah (by omega)]; omega
theorem AN6 {a : Nat} (h : a < 9223372036854775808) : IntKind.wrap .i64 ((a : Int) * 1) = ((a * 1 : Nat) : Int) := by rw [Ah (by omega)]; omega
theorem Ki {a : Nat} (h : a * 2 < 9223372036854775808) : IntKind.wrap .i64 ((a : Int) * 2) = ((a * 2 : Nat) : Int) := by rw [Ah (by omega)]; omega
theorem AN5 {a : Nat} (h : a * 3 < 9223372036854775808) : IntKind.wrap .i64 ((a : Int) * 3) = ((a * 3 : Nat) : Int) := by rw [Ah (by omega)]; omega
theorem A5 {a b : Nat} (h : b ≤ a ∧ a < 9223372036854775808) : IntKind.wrap .i64 ((a : Int) - (b : Int)) = ((a - b : Nat) : Int) := by rw [Ah (by omega)]; omega
theorem Ap {a : Nat} (h : 1 ≤ a ∧ a < 9223372036854775808) : IntKind.wrap .i64 ((a : Int) - 1) = ((a - 1 : Nat) : Int) := by rw [Ah (by omega)]; omega
theorem AXY {a : Nat} (h : a < 9223372036854775808) : quo? .i64 (a : Int) 2 = some ((a / 2 : Nat) : Int) := by
 rw [Vc, R6, if_neg (by omega), Int.tdiv_eq_ediv_of_nonneg (by omega), Ah (by omega)]; rfl
theorem AM0 {a : Nat} (h : a < 9223372036854775808) : quo? .i64 (a : Int) 4 = some ((a / 4 : Nat) : Int) := by
 rw [Vc, R6, if_neg (by omega), Int.tdiv_eq_ediv_of_nonneg (by omega), Ah (by omega)]; rfl
theorem AXX {a : Nat} (h : a < 9223372036854775808) : quo? .i64 (a : Int) 8 = some ((a / 8 : Nat) : Int) := by
 rw [Vc, R6, if_neg (by omega), Int.tdiv_eq_ediv_of_nonneg (by omega), Ah (by omega)]; rfl
end
end Go.Pev.Pl
end
section
namespace Go.Pev.Pl
section
variable {α : Type}
theorem DH {xs : List α} {n : Nat} (z : α) (h : n < xs.length) : idx xs (n : Int) = some (xs.getD n z) := by
 rw [idx_eq, MS, if_neg (by omega)]
 simp [h]
theorem ADE (xs : List α) (n : Nat) : idx xs (n : Int) = xs[n]? := by
 rw [idx_eq, MS, if_neg (by omega)]
 simp
theorem N4 (xs : List α) : idx xs (0 : Int) = xs.head? := by
 rw [idx_eq, MS, if_neg (by omega)]
 cases xs <;> rfl
theorem HY (xs : List α) (n : Nat) (z : α) : AT xs (AG (n : Int)) z = xs.getD n z := by simp [AT, AG]
theorem Is (xs : List α) (n : Nat) (x : α) : Ak xs (AG (n : Int)) x = xs.set n x := by simp [Ak, AG]
theorem AP (xs : List α) : AQ xs = (xs.length : Int) := rfl
theorem AUF (n : Nat) : AG (n : Int) = n := by simp [AG]
theorem HZ (xs ys : List α) : BX xs ys = xs ++ ys := rfl
theorem AIw {xs : List α} {l h : Nat} (h1 : l ≤ h) (h2 : h ≤ xs.length) : HL xs (l : Int) (h : Int) = some ((xs.take h).drop l) := by
 rw [Sb, LP, if_pos (by omega)]
 simp
end
theorem B6 {n : Int} (h : n ≤ 4294967296) : fits n = true := (J9 n).2 h
theorem AL3 {α : Type} {xs : List α} (h : xs.length ≤ 4294967296) : ADt xs = some xs := by
 rw [AAT, Iv, (QO _).2 (by rw [AP]; omega)]
theorem ATc {α β : Type} (xs : List α) (ys : List β) : ieq (AQ xs) (AQ ys) = decide (xs.length = ys.length) := by rw [AP, AP, Sq]
theorem Av (a b : Int) : ieq a b = decide (a = b) := by
 rw [HS]
 by_cases h : a = b <;> simp [h]
def walk {α β ρ : Type} (f : β → α → α ⊕ ρ) (fin : α → ρ) : List β → α → ρ
 | [], a => fin a
 | x :: xs, a => match f x a with
  | .inl a => walk f fin xs a
  | .inr r => r
theorem AN9 {σ ρ α β : Type} {step : σ → Option (σ ⊕ ρ)} (st : Nat → α → σ) (xs : List β) (f : β → α → α ⊕ ρ) (fin : α → ρ) (I : Nat → α → Prop)
  (h : ∀ i x a, i < xs.length → xs[i]? = some x → I i a → (∀ a', f x a = .inl a' → step (st i a) = some (.inl (st (i + 1) a')) ∧ I (i + 1) a') ∧ (∀ r, f x a = .inr r → step (st i a) = some (.inr r)))
  (hN : ∀ a, I xs.length a → step (st xs.length a) = some (.inr (fin a))) :
  ∀ (m i n : Nat) (a : α), xs.length - i = m → i ≤ xs.length → m < n → I i a → AU step n (st i a) = some (walk f fin (xs.drop i) a) := by
 intro m
 induction m with
 | zero =>
  intro i n a hk hi hn hI
  obtain ⟨n, rfl⟩ : ∃ k, n = k + 1 := ⟨n - 1, by omega⟩
  have e : i = xs.length := by omega
  subst e
  rw [AU, hN a hI, List.drop_length]
  rfl
 | succ m ih =>
  intro i n a hk hi hn hI
  obtain ⟨n, rfl⟩ : ∃ k, n = k + 1 := ⟨n - 1, by omega⟩
  have hi' : i < xs.length := by omega
  obtain ⟨g1, g2⟩ := h i xs[i] a hi' (by simp [hi']) hI
  rw [List.drop_eq_getElem_cons hi', walk, AU]
  cases hf : f xs[i] a with
  | inl a' =>
   obtain ⟨e, hI'⟩ := g1 a' hf
   rw [e]
   exact ih (i + 1) n a' (by omega) (by omega) (by omega) hI'
  | inr r => rw [g2 r hf]
theorem CQ {σ ρ α β : Type} {step : σ → Option (σ ⊕ ρ)} (st : Nat → α → σ) (xs : List β) (f : β → α → α ⊕ ρ) (fin : α → ρ) (I : Nat → α → Prop) (hs : xs.length < 9223372036854775808)
  (h : ∀ i x a, i < xs.length → xs[i]? = some x → I i a → (∀ a', f x a = .inl a' → step (st i a) = some (.inl (st (i + 1) a')) ∧ I (i + 1) a') ∧ (∀ r, f x a = .inr r → step (st i a) = some (.inr r)))
  (hN : ∀ a, I xs.length a → step (st xs.length a) = some (.inr (fin a))) (a : α) (h0 : I 0 a) : AR step many (st 0 a) = some (walk f fin xs a) := by
 have hm : 9223372036854775808 < many := by simp only [many]; omega
 rw [Ag, AN9 st xs f fin I h hN xs.length 0 many a (by omega) (by omega) (by omega) h0]
 rfl
theorem ADg {α : Type} {xs ys : List α} (z : α) (hl : xs.length = ys.length) (h : ∀ j, j < xs.length → xs.getD j z = ys.getD j z) : xs = ys := by
 apply List.ext_getElem hl
 intro i h1 h2
 have := h i h1
 simpa [h1, h2] using this
theorem AOx {σ ρ : Type} {step : σ → Option (σ ⊕ ρ)} (st : Nat → σ) (N : Nat) (P : Nat → Bool) (rt : Nat → ρ) (rf : ρ)
  (h : ∀ i, i < N → step (st i) = if P i then some (.inr (rt i)) else some (.inl (st (i + 1)))) (hN : step (st N) = some (.inr rf)) :
  ∀ (m i n : Nat), N - i = m → i ≤ N → m < n → (∃ k, i ≤ k ∧ k < N ∧ P k = true ∧ (∀ j, i ≤ j → j < k → P j = false) ∧ AU step n (st i) = some (rt k)) ∨ ((∀ j, i ≤ j → j < N → P j = false) ∧ AU step n (st i) = some rf) := by
 intro m
 induction m with
 | zero =>
  intro i n hk hi hn
  obtain ⟨n, rfl⟩ : ∃ k, n = k + 1 := ⟨n - 1, by omega⟩
  have e : i = N := by omega
  subst e
  exact .inr ⟨fun j h1 h2 => by omega, by rw [AU, hN]⟩
 | succ m ih =>
  intro i n hk hi hn
  obtain ⟨n, rfl⟩ : ∃ k, n = k + 1 := ⟨n - 1, by omega⟩
  have hi' : i < N := by omega
  cases hP : P i
  ·have e : AU step (n + 1) (st i) = AU step n (st (i + 1)) := by rw [AU, h i hi', hP]; rfl
   rw [e]
   rcases ih (i + 1) n (by omega) (by omega) (by omega) with ⟨k, h1, h2, h3, h4, h5⟩ | ⟨h1, h2⟩
   ·refine .inl ⟨k, by omega, h2, h3, fun j a1 a2 => ?_, h5⟩
    by_cases ej : j = i
    ·subst ej; exact hP
    ·exact h4 j (by omega) a2
   ·refine .inr ⟨fun j a1 a2 => ?_, h2⟩
    by_cases ej : j = i
    ·subst ej; exact hP
    ·exact h1 j (by omega) a2
  ·exact .inl ⟨i, Nat.le_refl _, hi', hP, fun j a1 a2 => by omega, by rw [AU, h i hi', hP]; rfl⟩
theorem AXW {σ ρ : Type} {step : σ → Option (σ ⊕ ρ)} (st : Nat → σ) (N : Nat) (P : Nat → Bool) (rt : Nat → ρ) (rf : ρ) (hs : N < 9223372036854775808)
  (h : ∀ i, i < N → step (st i) = if P i then some (.inr (rt i)) else some (.inl (st (i + 1)))) (hN : step (st N) = some (.inr rf)) :
  (∃ k, k < N ∧ P k = true ∧ (∀ j, j < k → P j = false) ∧ AR step many (st 0) = some (rt k)) ∨ ((∀ j, j < N → P j = false) ∧ AR step many (st 0) = some rf) := by
 have hm : 9223372036854775808 < many := by simp only [many]; omega
 rw [Ag]
 rcases AOx st N P rt rf h hN N 0 many rfl (by omega) (by omega) with ⟨k, h1, h2, h3, h4, h5⟩ | ⟨h1, h2⟩
 ·exact .inl ⟨k, h2, h3, fun j a => h4 j (by omega) a, h5⟩
 ·exact .inr ⟨fun j a => h1 j (by omega) a, h2⟩
end Go.Pev.Pl
end
section
namespace Go.Pev.Pl
inductive Tok where
 | ver (v : Int)
 | arc (u v : Int)
 deriving DecidableEq
namespace Tok
def st : Tok → Int
 | .ver v => v
 | .arc _ v => v
def step (s : List Int × List Int) : Tok → Option (List Int × List Int)
 | .ver v => match s.1 with
  | w :: _ => if w = v then some s else none
  | [] => none
 | .arc u v => match s.1 with
  | w :: r => if w = u then match r with
    | p :: r' => if p = v then some (p :: r', s.2) else if v ∈ s.2 then none else some (v :: w :: r, v :: s.2)
    | [] => if v ∈ s.2 then none else some (v :: w :: r, v :: s.2)
   else none
  | [] => none
def run : List Int × List Int → List Tok → Option (List Int × List Int)
 | s, [] => some s
 | s, t :: l => match step s t with
  | some s => run s l
  | none => none
theorem Cm (s : List Int × List Int) (a b : List Tok) : run s (a ++ b) = (run s a).bind fun s => run s b := by
 induction a generalizing s with
 | nil => rfl
 | cons t a ih =>
  simp only [List.cons_append, run]
  cases step s t with
  | none => rfl
  | some s => exact ih s
theorem BZ {s s' : List Int × List Int} {t : Tok} (h : step s t = some s') :
  (∃ v r, t = .ver v ∧ s.1 = v :: r ∧ s' = s) ∨
  (∃ u v r, t = .arc u v ∧ s.1 = u :: v :: r ∧ s' = (v :: r, s.2)) ∨
  (∃ u v r, t = .arc u v ∧ s.1 = u :: r ∧ r.head? ≠ some v ∧ v ∉ s.2 ∧ s' = (v :: u :: r, v :: s.2)) := by
 obtain ⟨way, c⟩ := s
 cases t with
 | ver v =>
  cases way with
  | nil => simp [step] at h
  | cons w r =>
   simp only [step] at h
   split at h
   ·rename_i e; cases h; exact .inl ⟨v, r, rfl, by simp [e], rfl⟩
   ·cases h
 | arc u v =>
  cases way with
  | nil => simp [step] at h
  | cons w r =>
   simp only [step] at h
   split at h
   ·rename_i e
    subst e
    cases r with
    | nil =>
     simp only at h
     split at h
     ·cases h
     ·rename_i hc; cases h; exact .inr (.inr ⟨w, v, [], rfl, rfl, by simp, hc, rfl⟩)
    | cons p r =>
     simp only at h
     split at h
     ·rename_i e; subst e; cases h; exact .inr (.inl ⟨w, p, r, rfl, rfl, rfl⟩)
     ·split at h
      ·cases h
      ·rename_i e hc; cases h; exact .inr (.inr ⟨w, v, p :: r, rfl, rfl, by simpa using e, hc, rfl⟩)
   ·cases h
theorem Ci (v : Int) (r c : List Int) : step (v :: r, c) (.ver v) = some (v :: r, c) := by simp [step]
theorem E0 (u v : Int) (r c : List Int) : step (u :: v :: r, c) (.arc u v) = some (v :: r, c) := by simp [step]
theorem EE (u v : Int) (r c : List Int) (h1 : r.head? ≠ some v) (h2 : v ∉ c) : step (u :: r, c) (.arc u v) = some (v :: u :: r, v :: c) := by
 cases r with
 | nil => simp [step, h2]
 | cons p r =>
  have : p ≠ v := by simpa using h1
  simp [step, h2, this]
def Inv (s : List Int × List Int) : Prop := s.1.Nodup ∧ (∀ x ∈ s.1, x ∈ s.2)
theorem Tb {s s' : List Int × List Int} {t : Tok} (h : step s t = some s') (hi : Inv s) : Inv s' ∧ (∀ x ∈ s.2, x ∈ s'.2) ∧ s'.1.head? = some t.st := by
 obtain ⟨way, c⟩ := s
 obtain ⟨h1, h2⟩ := hi
 rcases BZ h with ⟨v, r, rfl, hw, rfl⟩ | ⟨u, v, r, rfl, hw, rfl⟩ | ⟨u, v, r, rfl, hw, _, hn, rfl⟩
 ·exact ⟨⟨h1, h2⟩, fun x hx => hx, by rw [hw]; rfl⟩
 ·simp only at hw h1 h2
  subst hw
  refine ⟨⟨?_, ?_⟩, fun x hx => hx, rfl⟩
  ·exact (List.nodup_cons.1 h1).2
  ·intro x hx; exact h2 x (by simp only at hx; simp [List.mem_cons.1 hx])
 ·simp only at hw h1 h2 hn
  subst hw
  refine ⟨⟨?_, ?_⟩, fun x hx => by simp [hx], rfl⟩
  ·exact List.nodup_cons.2 ⟨fun hm => hn (h2 _ hm), h1⟩
  ·intro x hx
   rcases List.mem_cons.1 hx with rfl | hx
   ·simp
   ·exact List.mem_cons_of_mem _ (h2 x hx)
theorem Gs {l : List Tok} : ∀ {s s' : List Int × List Int}, run s l = some s' → Inv s → Inv s' ∧ (∀ x ∈ s.2, x ∈ s'.2) ∧ ∀ t, l.getLast? = some t → s'.1.head? = some t.st := by
 induction l with
 | nil => intro s s' h hi; cases h; exact ⟨hi, fun x hx => hx, fun t ht => by simp at ht⟩
 | cons t l ih =>
  intro s s' h hi
  simp only [run] at h
  split at h
  ·rename_i s1 h1
   obtain ⟨q1, q2, q3⟩ := Tb h1 hi
   obtain ⟨p1, p2, p3⟩ := ih h q1
   refine ⟨p1, fun x hx => p2 x (q2 x hx), fun t' ht' => ?_⟩
   cases l with
   | nil => simp at ht'; subst ht'; simp only [run] at h; cases h; exact q3
   | cons y l => exact p3 t' (by rw [List.getLast?_cons_cons] at ht'; exact ht')
  ·cases h
theorem Fs {Z : Int → Prop} : ∀ {l : List Tok} {way way' c d c2 low : List Int}, run (way, c) l = some (way', d) → way ≠ [] → (∀ x, x ∈ c2 ↔ x ∈ c ∨ Z x) →
  (∀ u v, .arc u v ∈ l → ¬ Z v) → (∀ y ∈ low, Z y) → ∃ d2, run (way ++ low, c2) l = some (way' ++ low, d2) ∧ (∀ x, x ∈ d2 ↔ x ∈ d ∨ Z x) := by
 intro l
 induction l with
 | nil => intro way way' c d c2 low h _ hc _ _; cases h; exact ⟨c2, rfl, hc⟩
 | cons t l ih =>
  intro way way' c d c2 low h hne hc hz hl
  simp only [run] at h
  split at h
  ·rename_i s1 h1
   have hz' : ∀ u v, Tok.arc u v ∈ l → ¬ Z v := fun u v hm => hz u v (List.mem_cons_of_mem _ hm)
   rcases BZ h1 with ⟨v, r, rfl, hw, rfl⟩ | ⟨u, v, r, rfl, hw, rfl⟩ | ⟨u, v, r, rfl, hw, hh, hn, rfl⟩
   ·simp only at hw
    subst hw
    obtain ⟨d2, e1, e2⟩ := ih h hne hc hz' hl
    exact ⟨d2, by simp only [run, List.cons_append, Ci]; exact e1, e2⟩
   ·simp only at hw
    subst hw
    obtain ⟨d2, e1, e2⟩ := ih h (by simp) hc hz' hl
    exact ⟨d2, by simp only [run, List.cons_append, E0]; exact e1, e2⟩
   ·simp only at hw hn
    subst hw
    have hzv := hz u v (by simp)
    have hn2 : v ∉ c2 := by rw [hc]; rintro (h | h); exact hn h; exact hzv h
    have hh2 : (r ++ low).head? ≠ some v := by
     cases r with
     | nil =>
      cases low with
      | nil => simp
      | cons y low =>
       simp only [List.nil_append, List.head?_cons, ne_eq, Option.some.injEq]
       rintro rfl
       exact hzv (hl _ (by simp))
     | cons p r => simpa using hh
    obtain ⟨d2, e1, e2⟩ := ih (c2 := v :: c2) h (by simp) (by intro x; simp only [List.mem_cons, hc, or_assoc]) hz' hl
    exact ⟨d2, by simp only [run, List.cons_append, EE _ _ _ _ hh2 hn2]; exact e1, e2⟩
  ·cases h
theorem VK {z : Int} : ∀ {l : List Tok} {way way' c2 d2 c : List Int}, run (way, c2) l = some (way', d2) → z ∉ way → (∀ x, x ∈ c2 ↔ x ∈ c ∨ x = z) → z ∉ c →
  .ver z ∉ l ∧ ∃ d, run (way, c) l = some (way', d) ∧ (∀ x, x ∈ d2 ↔ x ∈ d ∨ x = z) ∧ z ∉ d := by
 intro l
 induction l with
 | nil => intro way way' c2 d2 c h _ hc hz; cases h; exact ⟨by simp, c, rfl, hc, hz⟩
 | cons t l ih =>
  intro way way' c2 d2 c h hzw hc hz
  simp only [run] at h
  split at h
  ·rename_i s1 h1
   rcases BZ h1 with ⟨v, r, rfl, hw, rfl⟩ | ⟨u, v, r, rfl, hw, rfl⟩ | ⟨u, v, r, rfl, hw, hh, hn, rfl⟩
   ·simp only at hw
    subst hw
    obtain ⟨e0, d, e1, e2, e3⟩ := ih h hzw hc hz
    refine ⟨?_, d, by simp only [run, Ci]; exact e1, e2, e3⟩
    rintro hm
    rcases List.mem_cons.1 hm with hm | hm
    ·cases hm; exact hzw (by simp)
    ·exact e0 hm
   ·simp only at hw
    subst hw
    obtain ⟨e0, d, e1, e2, e3⟩ := ih h (fun hm => hzw (List.mem_cons_of_mem _ hm)) hc hz
    refine ⟨?_, d, by simp only [run, E0]; exact e1, e2, e3⟩
    rintro hm
    rcases List.mem_cons.1 hm with hm | hm
    ·cases hm
    ·exact e0 hm
   ·simp only at hw hn
    subst hw
    have hvz : v ≠ z := by rintro rfl; exact hn ((hc v).2 (.inr rfl))
    have hn' : v ∉ c := fun hm => hn ((hc v).2 (.inl hm))
    obtain ⟨e0, d, e1, e2, e3⟩ := ih (c := v :: c) h (by intro hm; rcases List.mem_cons.1 hm with hm | hm; exact hvz hm.symm; exact hzw hm)
     (by intro x; simp only [List.mem_cons, hc, or_assoc])
     (by intro hm; rcases List.mem_cons.1 hm with hm | hm; exact hvz hm.symm; exact hz hm)
    refine ⟨?_, d, by simp only [run, EE _ _ _ _ hh hn']; exact e1, e2, e3⟩
    rintro hm
    rcases List.mem_cons.1 hm with hm | hm
    ·cases hm
    ·exact e0 hm
  ·cases h
def Rot (a b : List Tok) : Prop := ∃ x y, a = x ++ y ∧ b = y ++ x
theorem Rot.refl (a : List Tok) : Rot a a := ⟨[], a, rfl, by simp⟩
theorem Rot.symm {a b : List Tok} (h : Rot a b) : Rot b a := by obtain ⟨x, y, h1, h2⟩ := h; exact ⟨y, x, h2, h1⟩
theorem Rot.trans {a b c : List Tok} (h : Rot a b) (g : Rot b c) : Rot a c := by
 obtain ⟨x, y, rfl, h2⟩ := h
 obtain ⟨z, w, h3, rfl⟩ := g
 rw [h2] at h3
 rcases List.append_eq_append_iff.1 h3 with ⟨k, h4, h5⟩ | ⟨k, h4, h5⟩
 ·subst h4 h5
  exact ⟨k, w ++ y, by simp, by simp⟩
 ·subst h4 h5
  exact ⟨x ++ z, k, by simp, by simp⟩
theorem Rot.perm {a b : List Tok} (h : Rot a b) : a.Perm b := by
 obtain ⟨x, y, rfl, rfl⟩ := h
 exact List.perm_append_comm
theorem Rot.mem {a b : List Tok} (h : Rot a b) (t : Tok) : t ∈ a ↔ t ∈ b := h.perm.mem_iff
theorem Rot.nodup {a b : List Tok} (h : Rot a b) : a.Nodup ↔ b.Nodup := h.perm.nodup_iff
theorem Rot.length {a b : List Tok} (h : Rot a b) : a.length = b.length := h.perm.length_eq
inductive T : List Tok → Prop
 | one (v : Int) : T [.ver v]
 | add (x : Tok) (l : List Tok) (v : Int) : T (x :: l) → x.st ≠ v → .ver v ∉ x :: l → T (x :: .arc x.st v :: .ver v :: .arc v x.st :: l)
 | rot (a b : List Tok) : T (a ++ b) → T (b ++ a)
theorem T.AKY {a b : List Tok} (h : T a) (r : Rot a b) : T b := by obtain ⟨x, y, rfl, rfl⟩ := r; exact T.rot x y h
theorem T.facts {l : List Tok} (h : T l) : l ≠ [] ∧ (∀ t ∈ l, .ver t.st ∈ l) ∧ (∀ u v, .arc u v ∈ l → .ver u ∈ l ∧ .ver v ∈ l ∧ .arc v u ∈ l ∧ u ≠ v) := by
 induction h with
 | one v => exact ⟨by simp, by simp [st], by simp⟩
 | add x l v h hne hv ih =>
  obtain ⟨_, i2, i3⟩ := ih
  have hsub : ∀ t, t ∈ x :: l → t ∈ x :: Tok.arc x.st v :: .ver v :: .arc v x.st :: l := by
   intro t ht
   rcases List.mem_cons.1 ht with rfl | ht
   ·simp
   ·simp [ht]
  have hx := hsub _ (i2 x (by simp))
  have cases3 : ∀ t, t ∈ x :: Tok.arc x.st v :: .ver v :: .arc v x.st :: l → t ∈ x :: l ∨ t = .arc x.st v ∨ t = .ver v ∨ t = .arc v x.st := by
   intro t ht
   simp only [List.mem_cons] at ht ⊢
   rcases ht with h | h | h | h | h <;> simp [h]
  refine ⟨by simp, fun t ht => ?_, fun a b hab => ?_⟩
  ·rcases cases3 t ht with h | rfl | rfl | rfl
   ·exact hsub _ (i2 t h)
   ·simp [st]
   ·simp [st]
   ·exact hx
  ·rcases cases3 _ hab with h | h | h | h
   ·obtain ⟨p1, p2, p3, p4⟩ := i3 a b h
    exact ⟨hsub _ p1, hsub _ p2, hsub _ p3, p4⟩
   ·cases h; exact ⟨hx, by simp, by simp, hne⟩
   ·cases h
   ·cases h; exact ⟨by simp, hx, by simp, Ne.symm hne⟩
 | rot a b h ih =>
  obtain ⟨i1, i2, i3⟩ := ih
  have hm : ∀ t, t ∈ a ++ b ↔ t ∈ b ++ a := fun t => List.perm_append_comm.mem_iff
  refine ⟨by intro e; simp only [List.append_eq_nil_iff] at e; exact i1 (by simp [e.1, e.2]), fun t ht => (hm _).1 (i2 t ((hm _).2 ht)), fun u v huv => ?_⟩
  obtain ⟨p1, p2, p3, p4⟩ := i3 u v ((hm _).2 huv)
  exact ⟨(hm _).1 p1, (hm _).1 p2, (hm _).1 p3, p4⟩
theorem T.nodup {l : List Tok} (h : T l) : l.Nodup := by
 induction h with
 | one v => simp
 | add x l v h hne hv ih =>
  obtain ⟨_, _, f3⟩ := h.facts
  have h1 : Tok.arc x.st v ∉ x :: l := fun hm => hv (f3 _ _ hm).2.1
  have h2 : Tok.arc v x.st ∉ x :: l := fun hm => hv (f3 _ _ hm).1
  simp only [List.mem_cons, not_or] at h1 h2 hv
  have ih' := List.nodup_cons.1 ih
  simp only [List.nodup_cons, List.mem_cons, not_or]
  refine ⟨⟨fun e => h1.1 e.symm, fun e => hv.1 e.symm, fun e => h2.1 e.symm, ih'.1⟩, ⟨by simp, ?_, h1.2⟩, ⟨by simp, hv.2⟩, h2.2, ih'.2⟩
  intro e
  simp only [Tok.arc.injEq] at e
  exact hne e.1
 | rot a b h ih => exact (List.perm_append_comm.nodup_iff).1 ih
def C (l : List Tok) : Prop := ∀ r, Rot l r → ∀ t, r.getLast? = some t → ∃ c, run ([t.st], [t.st]) r = some ([t.st], c) ∧ ∀ x, x ∈ c ↔ .ver x ∈ l
end Tok
end Go.Pev.Pl
end
section
namespace Go.Pev.Pl.Tok
theorem getLast?_app {a b : List Tok} {t : Tok} (h : b.getLast? = some t) : (a ++ b).getLast? = some t := by
 rw [List.getLast?_append, h]; rfl
theorem Al (s : List Int × List Int) (t : Tok) (l : List Tok) : run s (t :: l) = (step s t).bind fun s => run s l := by
 rw [run]
 cases step s t <;> rfl
theorem LC (v : Int) : Inv ([v], [v]) := ⟨by simp, by simp⟩
theorem T.toC {l : List Tok} (h : T l) : C l := by
 induction h with
 | one v =>
  intro r hr t ht
  have : r = [.ver v] := List.perm_singleton.1 hr.perm.symm
  subst this
  simp at ht
  subst ht
  exact ⟨[v], by simp [run, st, step], by simp⟩
 | rot a b h ih =>
  intro r hr t ht
  obtain ⟨c, h1, h2⟩ := ih r (Rot.trans ⟨a, b, rfl, rfl⟩ hr) t ht
  exact ⟨c, h1, fun x => (h2 x).trans (List.perm_append_comm.mem_iff)⟩
 | add x l v h hne hv ih =>
  obtain ⟨_, f2, f3⟩ := h.facts
  have hnz : ∀ u w, Tok.arc u w ∈ x :: l → ¬ (w = v) := fun u w hm e => hv (e ▸ (f3 u w hm).2.1)
  have fin : ∀ {d2 c : List Int}, (∀ y, y ∈ d2 ↔ y ∈ c ∨ y = v) → (∀ y, y ∈ c ↔ .ver y ∈ x :: l) → ∀ y, y ∈ d2 ↔ Tok.ver y ∈ x :: .arc x.st v :: .ver v :: .arc v x.st :: l := by
   intro d2 c e1 e2 y
   rw [e1, e2]
   simp only [List.mem_cons, reduceCtorEq, false_or, Tok.ver.injEq]
   constructor
   ·rintro ((h | h) | h) <;> simp [h]
   ·rintro (h | h | h) <;> simp [h]
  have triple : ∀ {w' c1 : List Int}, Inv (x.st :: w', c1) → v ∉ c1 → ∀ p, run (x.st :: w', c1) (.arc x.st v :: .ver v :: .arc v x.st :: p) = run (x.st :: w', v :: c1) p := by
   intro w' c1 hi hn p
   have hh : w'.head? ≠ some v := by
    intro e
    exact hn (hi.2 v (List.mem_cons_of_mem _ (List.mem_of_head? e)))
   rw [Al, EE _ _ _ _ hh hn, Option.bind_some, Al, Ci, Option.bind_some, Al, E0, Option.bind_some]
  have G : ∀ q1 p1, l = p1 ++ q1 → ∀ t, (q1 ++ x :: .arc x.st v :: .ver v :: .arc v x.st :: p1).getLast? = some t → ∃ c, run ([t.st], [t.st]) (q1 ++ x :: .arc x.st v :: .ver v :: .arc v x.st :: p1) = some ([t.st], c) ∧ ∀ y, y ∈ c ↔ .ver y ∈ x :: .arc x.st v :: .ver v :: .arc v x.st :: l := by
   intro q1 p1 hl t ht
   have hrot : Rot (x :: l) (q1 ++ x :: p1) := ⟨x :: p1, q1, by simp [hl], rfl⟩
   have ht0 : ∃ t0, (q1 ++ x :: p1).getLast? = some t0 ∧ t0.st = t.st := by
    cases p1 with
    | nil =>
     refine ⟨x, getLast?_app (by simp), ?_⟩
     rw [show q1 ++ [x, Tok.arc x.st v, .ver v, .arc v x.st] = (q1 ++ [x, Tok.arc x.st v, .ver v]) ++ [Tok.arc v x.st] by simp, List.getLast?_concat] at ht
     cases ht; rfl
    | cons y p1 =>
     refine ⟨t, ?_, rfl⟩
     rw [show q1 ++ x :: Tok.arc x.st v :: .ver v :: .arc v x.st :: y :: p1 = (q1 ++ [x, Tok.arc x.st v, .ver v, .arc v x.st]) ++ y :: p1 by simp, List.getLast?_append] at ht
     rw [show q1 ++ x :: y :: p1 = (q1 ++ [x]) ++ y :: p1 by simp, List.getLast?_append]
     exact ht
   obtain ⟨t0, e0, e1⟩ := ht0
   obtain ⟨c, h1, h2⟩ := ih _ hrot t0 e0
   rw [e1, show q1 ++ x :: p1 = (q1 ++ [x]) ++ p1 by simp, Cm, Option.bind_eq_some_iff] at h1
   obtain ⟨⟨w1, c1⟩, g1, g2⟩ := h1
   obtain ⟨i1, i2, i3⟩ := Gs g1 (LC _)
   obtain ⟨j1, j2, j3⟩ := Gs g2 i1
   have i3' := i3 x (by simp)
   simp only at i3'
   cases w1 with
   | nil => simp at i3'
   | cons w0 w' =>
    simp at i3'
    subst i3'
    have hn : v ∉ c1 := fun hm => hv ((h2 v).1 (j2 v hm))
    obtain ⟨d2, k1, k2⟩ := Fs (Z := (· = v)) (c2 := v :: c1) (low := []) g2 (by simp) (fun y => by simp [or_comm]) (fun u w hm => hnz u w (by simp [hl, hm])) (by simp)
    refine ⟨d2, ?_, fin k2 h2⟩
    rw [show q1 ++ x :: Tok.arc x.st v :: .ver v :: .arc v x.st :: p1 = (q1 ++ [x]) ++ Tok.arc x.st v :: .ver v :: .arc v x.st :: p1 by simp, Cm, g1, Option.bind_some, triple i1 hn]
    simpa using k1
  intro r hr t ht
  obtain ⟨p, q, hpq, rfl⟩ := hr
  have base : ∀ t0 : Tok, (l ++ [x]).getLast? = some t0 → t0 = x := fun t0 h => by rw [List.getLast?_concat] at h; exact (Option.some.inj h).symm
  obtain ⟨c, h1, h2⟩ := ih (l ++ [x]) ⟨[x], l, rfl, rfl⟩ x (by simp)
  match p with
  | [] =>
   simp only [List.nil_append] at hpq
   subst hpq
   have := G [] l (by simp) t (by simpa using ht)
   simpa using this
  | [y] =>
   simp only [List.cons_append, List.nil_append, List.cons.injEq] at hpq
   obtain ⟨rfl, rfl⟩ := hpq
   have : t = x := by
    rw [List.getLast?_concat] at ht
    exact (Option.some.inj ht).symm
   subst this
   have hn : v ∉ [t.st] := by simp; exact Ne.symm hne
   obtain ⟨d2, k1, k2⟩ := Fs (Z := (· = v)) (c2 := [v, t.st]) (low := []) h1 (by simp) (fun y => by simp [or_comm]) (fun u w hm => hnz u w (by simpa [or_comm] using hm)) (by simp)
   refine ⟨d2, ?_, fin k2 h2⟩
   rw [show (Tok.arc t.st v :: .ver v :: .arc v t.st :: l) ++ [t] = Tok.arc t.st v :: .ver v :: .arc v t.st :: (l ++ [t]) by simp, triple (LC _) hn]
   simpa using k1
  | [y, z] =>
   simp only [List.cons_append, List.nil_append, List.cons.injEq] at hpq
   obtain ⟨rfl, rfl, rfl⟩ := hpq
   have : t = .arc x.st v := by
    rw [show (Tok.ver v :: .arc v x.st :: l) ++ [x, .arc x.st v] = (Tok.ver v :: .arc v x.st :: l ++ [x]) ++ [.arc x.st v] by simp, List.getLast?_concat] at ht
    exact (Option.some.inj ht).symm
   subst this
   obtain ⟨d2, k1, k2⟩ := Fs (Z := (· = v)) (c2 := [x.st, v]) (low := [v]) h1 (by simp) (fun y => by simp) (fun u w hm => hnz u w (by simpa [or_comm] using hm)) (by simp)
   refine ⟨d2, ?_, fin k2 h2⟩
   rw [show (Tok.ver v :: .arc v x.st :: l) ++ [x, .arc x.st v] = Tok.ver v :: .arc v x.st :: ((l ++ [x]) ++ [.arc x.st v]) by simp]
   rw [Al]
   show (step ([v], [v]) _).bind _ = _
   rw [Ci, Option.bind_some, Al, EE _ _ _ _ (by simp) (by simp; exact hne), Option.bind_some, Cm]
   rw [show ([x.st] ++ [v] : List Int) = [x.st, v] from rfl] at k1
   rw [k1, Option.bind_some, Al, E0]
   rfl
  | [y, z, w] =>
   simp only [List.cons_append, List.nil_append, List.cons.injEq] at hpq
   obtain ⟨rfl, rfl, rfl, rfl⟩ := hpq
   have : t = .ver v := by
    rw [show (Tok.arc v x.st :: l) ++ [x, .arc x.st v, .ver v] = (Tok.arc v x.st :: l ++ [x, .arc x.st v]) ++ [.ver v] by simp, List.getLast?_concat] at ht
    exact (Option.some.inj ht).symm
   subst this
   obtain ⟨d2, k1, k2⟩ := Fs (Z := (· = v)) (c2 := [x.st, v]) (low := [v]) h1 (by simp) (fun y => by simp) (fun u w hm => hnz u w (by simpa [or_comm] using hm)) (by simp)
   refine ⟨d2, ?_, fin k2 h2⟩
   rw [show (Tok.arc v x.st :: l) ++ [x, .arc x.st v, .ver v] = Tok.arc v x.st :: ((l ++ [x]) ++ [.arc x.st v, .ver v]) by simp]
   rw [Al]
   show (step ([v], [v]) _).bind _ = _
   rw [EE _ _ _ _ (by simp) (by simp; exact hne), Option.bind_some, Cm]
   rw [show ([x.st] ++ [v] : List Int) = [x.st, v] from rfl] at k1
   rw [k1, Option.bind_some, Al, E0, Option.bind_some, Al, Ci]
   rfl
  | y :: z :: w :: w2 :: p1 =>
   simp only [List.cons_append, List.cons.injEq] at hpq
   obtain ⟨rfl, rfl, rfl, rfl, rfl⟩ := hpq
   exact G q p1 rfl t ht
def comp (P : List Tok) : List Int → List Tok
 | [] => []
 | w :: r => (if .ver w ∈ P then [] else [.ver w]) ++ match r with
  | [] => []
  | p :: _ => .arc w p :: comp P r
theorem Mj {P P' : List Tok} : ∀ {way : List Int}, (∀ w ∈ way, (Tok.ver w ∈ P ↔ Tok.ver w ∈ P')) → comp P way = comp P' way := by
 intro way
 induction way with
 | nil => intro _; rfl
 | cons w r ih =>
  intro h
  have h1 := h w (by simp)
  have h2 := ih fun x hx => h x (List.mem_cons_of_mem _ hx)
  simp only [comp, h1, h2]
theorem ATp : ∀ (M P : List Tok) (way c c' : List Int) (r : Int) (t0 : Tok), run (way, c) M = some ([r], c') → Inv (way, c) → P.getLast? = some t0 → way.head? = some t0.st →
  T (P ++ comp P way) → (∀ x, .ver x ∈ P ++ comp P way → x ∈ c) → (∀ x ∈ c', Tok.ver x ∈ P ++ M) → (P ++ M).Nodup → T (P ++ M) := by
 intro M
 induction M with
 | nil =>
  intro P way c c' r t0 h hi hl hh hT hc hc' hn
  cases h
  have := hc' r (hi.2 r (by simp))
  rw [List.append_nil] at this
  simpa [comp, this] using hT
 | cons t M ih =>
  intro P way c c' r t0 h hi hl hh hT hc hc' hn
  rw [Al, Option.bind_eq_some_iff] at h
  obtain ⟨⟨w1, c1⟩, h1, h2⟩ := h
  obtain ⟨hi1, hsub, hhd⟩ := Tb h1 hi
  have asso : P ++ t :: M = (P ++ [t]) ++ M := by simp
  rw [asso] at hn hc' ⊢
  have hnt : t ∉ P := by
   have := (List.nodup_append.1 (List.nodup_append.1 hn).1)
   intro hm
   exact this.2.2 t hm t (by simp) rfl
  rcases BZ h1 with ⟨v, rr, rfl, hw, e⟩ | ⟨u, v, rr, rfl, hw, e⟩ | ⟨u, v, rr, rfl, hw, hh2, hn2, e⟩
  ·cases e
   simp only at hw
   subst hw
   have key : comp P (v :: rr) = .ver v :: comp (P ++ [.ver v]) (v :: rr) := by
    have e2 : comp P rr = comp (P ++ [.ver v]) rr := Mj fun w hwm => by
     have : w ≠ v := by rintro rfl; exact (List.nodup_cons.1 hi.1).1 hwm
     simp [this]
    simp only [comp, hnt, e2]
    simp
   rw [key] at hT hc
   exact ih _ _ _ _ _ (.ver v) h2 hi1 (by simp) hhd (by simpa using hT) (fun x hx => hc x (by simpa using hx)) hc' hn
  ·cases e
   simp only at hw
   subst hw
   have hu : Tok.ver u ∈ P := by
    have hun := (List.nodup_cons.1 hi.1).1
    obtain ⟨g1, _⟩ := VK (z := u) (c := c.filter (· ≠ u)) h2 hun (fun x => by
     simp only [List.mem_filter, decide_eq_true_eq]
     constructor
     ·intro h
      by_cases e : x = u
      ·exact .inr e
      ·exact .inl ⟨h, by simpa using e⟩
     ·rintro (h | rfl)
      ·exact h.1
      ·exact hi.2 x (by simp)) (by simp)
    have hmono := (Gs h2 hi1).2.1 u (hi.2 u (by simp))
    have := hc' u hmono
    simp only [List.mem_append, List.mem_singleton, reduceCtorEq, or_false] at this
    rcases this with h | h
    ·exact h
    ·exact absurd h g1
   have key : comp P (u :: v :: rr) = .arc u v :: comp (P ++ [.arc u v]) (v :: rr) := by
    have e2 : comp P (v :: rr) = comp (P ++ [.arc u v]) (v :: rr) := Mj fun w hwm => by simp
    rw [← e2]
    simp only [comp, hu]
    simp
   rw [key] at hT hc
   exact ih _ _ _ _ _ (.arc u v) h2 hi1 (by simp) hhd (by simpa using hT) (fun x hx => hc x (by simpa using hx)) hc' hn
  ·cases e
   simp only at hw hn2
   subst hw
   have hu : u = t0.st := by simpa using hh
   subst hu
   have hvc : ∀ x, Tok.ver x ∈ P ++ comp P (t0.st :: rr) → x ≠ v := by rintro x hx rfl; exact hn2 (hc x hx)
   have hvP : Tok.ver v ∉ P ++ comp P (t0.st :: rr) := fun hm => hvc v hm rfl
   have hvP' : Tok.ver v ∉ P := fun hm => hvP (by simp [hm])
   have key : comp (P ++ [.arc t0.st v]) (v :: t0.st :: rr) = .ver v :: .arc v t0.st :: comp P (t0.st :: rr) := by
    have e2 : comp (P ++ [.arc t0.st v]) (t0.st :: rr) = comp P (t0.st :: rr) := Mj fun w hwm => by simp
    rw [← e2]
    simp only [comp, List.mem_append, hvP', List.mem_singleton, reduceCtorEq, or_false, if_false]
    rfl
   have hne : t0.st ≠ v := by rintro e; exact hn2 (e ▸ hi.2 t0.st (by simp))
   refine ih _ _ _ _ _ (.arc t0.st v) h2 hi1 (by simp) hhd ?_ ?_ hc' hn
   ·rw [key]
    obtain ⟨P0, rfl⟩ : ∃ P0, P = P0 ++ [t0] := List.getLast?_eq_some_iff.1 hl
    have hT1 : T (t0 :: (comp (P0 ++ [t0]) (t0.st :: rr) ++ P0)) := hT.AKY ⟨P0, t0 :: comp (P0 ++ [t0]) (t0.st :: rr), by simp, by simp⟩
    have hT2 := T.add t0 _ v hT1 hne (by
     intro hm
     apply hvP
     simp only [List.mem_append, List.mem_cons, List.not_mem_nil, or_false] at hm ⊢
     rcases hm with h | h | h <;> simp [h])
    exact hT2.AKY ⟨t0 :: .arc t0.st v :: .ver v :: .arc v t0.st :: comp (P0 ++ [t0]) (t0.st :: rr), P0, by simp, by simp⟩
   ·intro x hx
    rw [key] at hx
    simp only [List.mem_append, List.mem_cons, List.not_mem_nil, or_false, reduceCtorEq, Tok.ver.injEq, false_or] at hx
    rcases hx with h | h | h
    ·exact List.mem_cons_of_mem _ (hc x (by simp [h]))
    ·simp [h]
    ·exact List.mem_cons_of_mem _ (hc x (by simp [h]))
def Ay (l : List Tok) : Prop := ∃ r l' c, l = .ver r :: l' ∧ run ([r], [r]) l = some ([r], c) ∧ ∀ x ∈ c, Tok.ver x ∈ l
theorem Ay.toT {l : List Tok} (h : Ay l) (hn : l.Nodup) : T l := by
 obtain ⟨r, l', c, rfl, h1, h2⟩ := h
 rw [Al, Ci, Option.bind_some] at h1
 have := ATp l' [.ver r] [r] [r] c r (.ver r) h1 (LC r) (by simp) (by simp [st]) (by simp [comp]; exact T.one r) (by simp [comp]) (by simpa using h2) (by simpa using hn)
 simpa using this
theorem T.ABB {r : Int} {l : List Tok} (h : T (.ver r :: l)) : Ay (.ver r :: l) := by
 obtain ⟨t, ht⟩ : ∃ t, (Tok.ver r :: l).getLast? = some t := ⟨_, List.getLast?_eq_some_getLast (by simp)⟩
 obtain ⟨c, h1, h2⟩ := h.toC _ (Rot.refl _) t ht
 have h1' := h1
 rw [Al, Option.bind_eq_some_iff] at h1'
 obtain ⟨s, g1, _⟩ := h1'
 have e : t.st = r := by
  simp only [step] at g1
  split at g1
  ·assumption
  ·cases g1
 rw [e] at h1
 exact ⟨r, l, c, rfl, h1, fun x hx => (h2 x).1 hx⟩
end Go.Pev.Pl.Tok
end
section
namespace Go.Pev.Pl.Tok
theorem T.AHr {l : List Tok} (h : T l) : ∃ v r, Rot l (.ver v :: r) := by
 obtain ⟨f1, f2, _⟩ := h.facts
 obtain ⟨t, ht⟩ := List.exists_mem_of_ne_nil l f1
 obtain ⟨a, b, rfl⟩ := List.append_of_mem (f2 t ht)
 exact ⟨t.st, b ++ a, a, .ver t.st :: b, rfl, rfl⟩
theorem T.less {x : Tok} {v : Int} {l : List Tok} (h : T (x :: .arc x.st v :: .ver v :: .arc v x.st :: l)) : T (x :: l) := by
 have hC := h.toC
 have hn := h.nodup
 obtain ⟨_, f2, f3⟩ := h.facts
 have hne : x.st ≠ v := (f3 x.st v (by simp)).2.2.2
 have hvl : Tok.ver v ∉ l := by
  intro hm
  simp only [List.nodup_cons, List.mem_cons, not_or] at hn
  exact hn.2.2.1.2 hm
 have hvx : x ≠ .ver v := by rintro rfl; exact hne rfl
 have key : ∀ p q, l = p ++ q → ∀ t0, (q ++ x :: p).getLast? = some t0 → ∃ c, run ([t0.st], [t0.st]) (q ++ x :: p) = some ([t0.st], c) ∧ ∀ y, y ∈ c ↔ .ver y ∈ x :: l := by
  intro p q hl t0 ht0
  have hrot : Rot (x :: .arc x.st v :: .ver v :: .arc v x.st :: l) (q ++ x :: .arc x.st v :: .ver v :: .arc v x.st :: p) := ⟨x :: .arc x.st v :: .ver v :: .arc v x.st :: p, q, by simp [hl], rfl⟩
  have ht : ∃ t, (q ++ x :: Tok.arc x.st v :: .ver v :: .arc v x.st :: p).getLast? = some t ∧ t.st = t0.st := by
   cases p with
   | nil =>
    rw [List.getLast?_concat] at ht0
    cases ht0
    exact ⟨.arc v x.st, by rw [show q ++ [x, Tok.arc x.st v, .ver v, .arc v x.st] = (q ++ [x, Tok.arc x.st v, .ver v]) ++ [Tok.arc v x.st] by simp, List.getLast?_concat], rfl⟩
   | cons y p =>
    refine ⟨t0, ?_, rfl⟩
    rw [show q ++ x :: Tok.arc x.st v :: .ver v :: .arc v x.st :: y :: p = (q ++ [x, Tok.arc x.st v, .ver v, .arc v x.st]) ++ y :: p by simp, List.getLast?_append]
    rw [show q ++ x :: y :: p = (q ++ [x]) ++ y :: p by simp, List.getLast?_append] at ht0
    exact ht0
  obtain ⟨t, e0, e1⟩ := ht
  obtain ⟨c, h1, h2⟩ := hC _ hrot t e0
  rw [e1, show q ++ x :: Tok.arc x.st v :: .ver v :: .arc v x.st :: p = (q ++ [x]) ++ Tok.arc x.st v :: .ver v :: .arc v x.st :: p by simp, Cm, Option.bind_eq_some_iff] at h1
  obtain ⟨⟨w1, c1⟩, g1, g2⟩ := h1
  obtain ⟨i1, i2, i3⟩ := Gs g1 (LC _)
  have i3' := i3 x (by simp)
  simp only at i3'
  cases w1 with
  | nil => simp at i3'
  | cons w0 w' =>
   simp at i3'
   subst i3'
   rw [Al, Option.bind_eq_some_iff] at g2
   obtain ⟨s1, k1, k2⟩ := g2
   rcases BZ k1 with ⟨v', r, e, _⟩ | ⟨u', v', r, e, hw, rfl⟩ | ⟨u', v', r, e, hw, hh, hnc, rfl⟩
   ·cases e
   ·cases e
    simp only [List.cons.injEq] at hw
    obtain ⟨_, rfl⟩ := hw
    exfalso
    rw [Al, Ci, Option.bind_some, Al, Option.bind_eq_some_iff] at k2
    obtain ⟨s2, m1, _⟩ := k2
    have hnd := i1.1
    rcases BZ m1 with ⟨v', r', e, _⟩ | ⟨u', v', r', e, hw, rfl⟩ | ⟨u', v', r', e, hw, hh, hnc, rfl⟩
    ·cases e
    ·cases e
     simp only [List.cons.injEq] at hw
     obtain ⟨_, rfl⟩ := hw
     simp at hnd
    ·cases e
     exact hnc (i1.2 _ (by simp))
   ·cases e
    simp only [List.cons.injEq, true_and] at hw
    subst hw
    simp only at hnc
    rw [Al, Ci, Option.bind_some, Al, E0, Option.bind_some] at k2
    have hvw : v ∉ x.st :: w' := fun hm => hnc (i1.2 v hm)
    obtain ⟨_, d, m1, m2, m3⟩ := VK (z := v) (c := c1) k2 hvw (fun y => by simp [or_comm]) hnc
    refine ⟨d, ?_, fun y => ?_⟩
    ·rw [show q ++ x :: p = (q ++ [x]) ++ p by simp, Cm, g1, Option.bind_some, m1]
    ·have q1 := m2 y
     have q2 := h2 y
     by_cases e : y = v
     ·subst e
      refine ⟨fun h => absurd h m3, fun h => ?_⟩
      rcases List.mem_cons.1 h with h | h
      ·exact absurd h.symm hvx
      ·exact absurd h hvl
     ·rw [q2] at q1
      simp only [e, or_false] at q1
      rw [← q1]
      simp [e]
 obtain ⟨s, b, a, hsb⟩ : ∃ s a b, x :: l = a ++ .ver s :: b := by
  have := f2 x (by simp)
  simp only [List.mem_cons, reduceCtorEq, false_or, Tok.ver.injEq, hne] at this
  rcases this with h | h
  ·exact ⟨x.st, [], l, by rw [← h]; rfl⟩
  ·obtain ⟨a, b, rfl⟩ := List.append_of_mem h
   exact ⟨x.st, x :: a, b, rfl⟩
 have hg : Ay (.ver s :: a ++ b) := by
  have hr : ∃ p q, l = p ++ q ∧ q ++ x :: p = .ver s :: a ++ b := by
   cases b with
   | nil =>
    simp only [List.nil_append, List.cons.injEq] at hsb
    obtain ⟨rfl, rfl⟩ := hsb
    exact ⟨l, [], by simp, by simp⟩
   | cons y b =>
    simp only [List.cons_append, List.cons.injEq] at hsb
    obtain ⟨rfl, rfl⟩ := hsb
    exact ⟨b, .ver s :: a, rfl, by simp⟩
  obtain ⟨p, q, hl, e⟩ := hr
  obtain ⟨t0, ht0⟩ : ∃ t0, (q ++ x :: p).getLast? = some t0 := ⟨_, List.getLast?_eq_some_getLast (by simp)⟩
  obtain ⟨c, h1, h2⟩ := key p q hl t0 ht0
  rw [e] at h1
  have h1' := h1
  rw [List.cons_append, Al, Option.bind_eq_some_iff] at h1'
  obtain ⟨s', g1, _⟩ := h1'
  have e' : t0.st = s := by
   simp only [step] at g1
   split at g1
   ·assumption
   ·cases g1
  rw [e'] at h1
  refine ⟨s, a ++ b, c, rfl, h1, fun y hy => ?_⟩
  have := (h2 y).1 hy
  rw [hsb] at this
  simp only [List.mem_append, List.mem_cons] at this ⊢
  rcases this with h | h | h <;> simp [h]
 have hrot2 : Rot (.ver s :: a ++ b) (x :: l) := ⟨.ver s :: a, b, rfl, hsb⟩
 have hnx : (x :: l).Nodup := by
  simp only [List.nodup_cons, List.mem_cons, not_or] at hn ⊢
  exact ⟨hn.1.2.2.2, hn.2.2.2.2⟩
 exact (hg.toT (hrot2.nodup.2 hnx)).AKY hrot2
theorem T.leaf {l : List Tok} (h : T l) : (∃ v, l = [.ver v]) ∨ ∃ x v r, Rot l (x :: .arc x.st v :: .ver v :: .arc v x.st :: r) := by
 induction h with
 | one v => exact .inl ⟨v, rfl⟩
 | add x l v h hne hv ih => exact .inr ⟨x, v, l, Rot.refl _⟩
 | rot a b h ih =>
  rcases ih with ⟨v, e⟩ | ⟨x, v, r, hr⟩
  ·have hr : Rot [.ver v] (b ++ a) := ⟨a, b, e.symm, rfl⟩
   exact .inl ⟨v, List.perm_singleton.1 hr.perm.symm⟩
  ·exact .inr ⟨x, v, r, Rot.trans ⟨b, a, rfl, rfl⟩ hr⟩
def JL : List Tok → List Int
 | [] => []
 | .ver v :: l => v :: JL l
 | .arc _ _ :: l => JL l
theorem Nr {v : Int} : ∀ {l : List Tok}, v ∈ JL l ↔ .ver v ∈ l
 | [] => by simp [JL]
 | .ver w :: l => by simp [JL, Nr (l := l)]
 | .arc _ _ :: l => by simp [JL, Nr (l := l)]
theorem AEf (a b : List Tok) : JL (a ++ b) = JL a ++ JL b := by
 induction a with
 | nil => rfl
 | cons t a ih => cases t <;> simp [JL, ih]
theorem T.len {l : List Tok} (h : T l) : l.length + 2 = 3 * (JL l).length := by
 induction h with
 | one v => rfl
 | add x l v h hne hv ih =>
  cases x <;> simp [JL] at ih ⊢ <;> omega
 | rot a b h ih =>
  simp only [AEf, List.length_append] at ih ⊢
  omega
end Go.Pev.Pl.Tok
end
section
namespace Go.Pev.Pl
section
variable {β : Type}
def A1 (es : List (Int × β)) : List Int := es.map Prod.fst
theorem QD (es : List (Int × β)) : (A1 es).length = es.length := by simp [A1]
theorem Fa (es : List (Int × β)) (k : Int) (v : β) (j : Int) : Ac (Ai es k v) j = if j = k then some v else Ac es j := by
 induction es with
 | nil =>
  simp only [Ai, Ac]
  by_cases h : k = j
  ·simp [h]
  ·simp [h, Ne.symm h]
 | cons e es ih =>
  obtain ⟨a, b⟩ := e
  simp only [Ai]
  by_cases h : a = k
  ·subst h
   simp only [if_true, Ac]
   by_cases h2 : a = j
   ·simp [h2]
   ·simp [h2, Ne.symm h2]
  ·simp only [h, if_false, Ac, ih]
   by_cases h2 : a = j
   ·subst h2; simp [h]
   ·simp [h2]
theorem MM (es : List (Int × β)) (k : Int) (v : β) : A1 (Ai es k v) = if k ∈ A1 es then A1 es else A1 es ++ [k] := by
 induction es with
 | nil => rfl
 | cons e es ih =>
  obtain ⟨a, b⟩ := e
  simp only [Ai]
  by_cases h : a = k
  ·subst h; simp [A1]
  ·simp only [h, if_false]
   show a :: A1 (Ai es k v) = _
   rw [ih]
   have : k ∈ A1 ((a, b) :: es) ↔ k ∈ A1 es := by simp [A1, Ne.symm h]
   simp only [this]
   split <;> rfl
theorem RK (es : List (Int × β)) (k : Int) : Ac es k = none ↔ k ∉ A1 es := by
 induction es with
 | nil => simp [Ac, A1]
 | cons e es ih =>
  obtain ⟨a, b⟩ := e
  simp only [Ac]
  by_cases h : a = k
  ·simp [h, A1]
  ·simp only [h, if_false, ih]
   simp [A1, Ne.symm h]
theorem Dw (es : List (Int × β)) (k : Int) (v : β) (j : Int) : j ∈ A1 (Ai es k v) ↔ j = k ∨ j ∈ A1 es := by
 rw [MM]
 split
 ·rename_i h
  constructor
  ·exact .inr
  ·rintro (rfl | h2)
   ·exact h
   ·exact h2
 ·simp [or_comm]
theorem Hm {es : List (Int × β)} (h : (A1 es).Nodup) (k : Int) (v : β) : (A1 (Ai es k v)).Nodup := by
 rw [MM]
 split
 ·exact h
 ·rename_i hk
  rw [List.nodup_append]
  exact ⟨h, by simp, fun a ha b hb => by rintro rfl; simp at hb; exact hk (hb ▸ ha)⟩
end
def dd : List Int → List Int → List Int
 | ks, [] => ks
 | ks, x :: xs => dd (if x ∈ ks then ks else ks ++ [x]) xs
theorem AXK : ∀ (xs ks : List Int), (dd ks xs).length ≤ ks.length + xs.length ∧ ((dd ks xs).length = ks.length + xs.length ↔ xs.Nodup ∧ ∀ x ∈ xs, x ∉ ks) := by
 intro xs
 induction xs with
 | nil => intro ks; simp [dd]
 | cons x xs ih =>
  intro ks
  rw [dd]
  by_cases h : x ∈ ks
  ·obtain ⟨h1, _⟩ := ih ks
   rw [if_pos h]
   refine ⟨by simp only [List.length_cons]; omega, ?_, fun hh => absurd h (hh.2 x (by simp))⟩
   intro e
   simp only [List.length_cons] at e
   omega
  ·obtain ⟨h1, h2⟩ := ih (ks ++ [x])
   rw [if_neg h]
   simp only [List.length_append, List.length_cons, List.length_nil, Nat.zero_add] at h1 h2 ⊢
   refine ⟨by omega, ?_⟩
   rw [show ks.length + (xs.length + 1) = ks.length + 1 + xs.length by omega, h2, List.nodup_cons]
   constructor
   ·rintro ⟨g1, g2⟩
    refine ⟨⟨fun hx => g2 x hx (by simp), g1⟩, fun y hy => ?_⟩
    rcases List.mem_cons.1 hy with rfl | hy
    ·exact h
    ·exact fun hk => g2 y hy (by simp [hk])
   ·rintro ⟨⟨g1, g2⟩, g3⟩
    refine ⟨g2, fun y hy hk => ?_⟩
    simp only [List.mem_append, List.mem_singleton] at hk
    rcases hk with hk | rfl
    ·exact g3 y (by simp [hy]) hk
    ·exact g1 hy
theorem AUG (xs : List Int) : (dd [] xs).length = xs.length ↔ xs.Nodup := by
 have := (AXK xs []).2
 simpa using this
theorem BB {α β ρ : Type} (g : β → α → α) (fin : α → ρ) : ∀ (xs : List β) (a : α), walk (fun x a => .inl (g x a)) fin xs a = fin (xs.foldl (fun a x => g x a) a) := by
 intro xs
 induction xs with
 | nil => intro a; rfl
 | cons x xs ih => intro a; rw [walk, List.foldl_cons]; exact ih _
theorem OG {σ ρ β : Type} {step : σ → Option (σ ⊕ ρ)} (st : Nat → σ) (xs : List β) (P : β → Bool) (rt : Nat → ρ) (rf : ρ) (hs : xs.length < 9223372036854775808)
  (h : ∀ i x, i < xs.length → xs[i]? = some x → step (st i) = if P x then some (.inr (rt i)) else some (.inl (st (i + 1)))) (hN : step (st xs.length) = some (.inr rf)) :
  AR step many (st 0) = some (if xs.any P then rt (xs.findIdx P) else rf) := by
 have key : ∀ (l : List β) (a : Nat), walk (fun x (a : Nat) => if P x then .inr (rt a) else .inl (a + 1)) (fun _ => rf) l a = if l.any P then rt (a + l.findIdx P) else rf := by
  intro l
  induction l with
  | nil => intro a; rfl
  | cons x l ih =>
   intro a
   rw [walk, List.any_cons, List.findIdx_cons]
   by_cases hx : P x = true
   ·simp [hx]
   ·simp only [hx, Bool.false_eq_true, if_false, Bool.false_or, cond_false]
    rw [ih, show a + 1 + List.findIdx P l = a + (List.findIdx P l + 1) by omega]
 have := CQ (step := step) (fun i (a : Nat) => st a) xs (fun x (a : Nat) => if P x then .inr (rt a) else .inl (a + 1)) (fun _ => rf) (fun i a => a = i) hs
  (fun i x a hi hx ha => by
   subst ha
   refine ⟨fun a' h' => ?_, fun r h' => ?_⟩
   ·rw [h a x hi hx]
    split at h'
    ·cases h'
    ·rename_i hp
     cases h'
     simp [hp]
   ·rw [h a x hi hx]
    split at h'
    ·rename_i hp
     cases h'
     simp [hp]
    ·cases h')
  (fun a ha => by subst ha; exact hN) 0 rfl
 rw [this, key, Nat.zero_add]
theorem AY {α : Type} {xs : List α} {n : Nat} {x : α} (h : xs[n]? = some x) : idx xs (n : Int) = some x := by rw [ADE, h]
theorem BD {α : Type} {xs : List α} {n : Nat} {x z : α} (h : xs[n]? = some x) : AT xs (AG (n : Int)) z = x := by
 rw [HY, List.getD_eq_getElem?_getD, h]; rfl
theorem ARp {α : Type} {xs : List α} {h : Nat} (h2 : h ≤ xs.length) : HL xs (0 : Int) (h : Int) = some (xs.take h) := by
 have := AIw (xs := xs) (l := 0) (Nat.zero_le h) h2
 simpa using this
theorem AFA {α : Type} {xs : List α} {l : Nat} (h1 : l ≤ xs.length) : HL xs (l : Int) (AQ xs) = some (xs.drop l) := by
 have := AIw (xs := xs) h1 (Nat.le_refl _)
 rw [List.take_length] at this
 exact this
def pos (xs : List Int) (t : Int) : Int := if t ∈ xs then ((xs.findIdx (fun x => decide (x = t)) : Nat) : Int) else -1
theorem AWZ (xs : List Int) (t : Int) : (xs.any fun x => decide (x = t)) = decide (t ∈ xs) := by
 induction xs with
 | nil => rfl
 | cons x xs ih => simp only [List.any_cons, ih, List.mem_cons, Bool.decide_or]; congr 1; exact decide_eq_decide.2 eq_comm
theorem ASd {xs : List Int} {t : Int} (h : t ∈ xs) : ∃ k : Nat, pos xs t = (k : Int) ∧ k < xs.length ∧ xs[k]? = some t ∧ xs = xs.take k ++ t :: xs.drop (k + 1) ∧ t ∉ xs.take k := by
 have hk : xs.findIdx (fun x => decide (x = t)) < xs.length := List.findIdx_lt_length.2 ⟨t, h, by simp⟩
 have hg : xs[xs.findIdx (fun x => decide (x = t))]'hk = t := by
  have := List.findIdx_getElem (xs := xs) (p := fun x => decide (x = t)) (w := hk)
  simpa using this
 refine ⟨_, by rw [pos, if_pos h], hk, by rw [List.getElem?_eq_getElem hk, hg], ?_, ?_⟩
 ·conv => lhs; rw [← List.take_append_drop (xs.findIdx (fun x => decide (x = t))) xs, List.drop_eq_getElem_cons hk, hg]
 ·intro hm
  obtain ⟨j, hj, e⟩ := List.mem_take_iff_getElem.1 hm
  have := List.not_of_lt_findIdx (p := fun x => decide (x = t)) (xs := xs) (i := j) (by omega)
  simp [e] at this
theorem AM1 {xs : List Int} {t : Int} (h : t ∉ xs) : pos xs t = -1 := by rw [pos, if_neg h]
end Go.Pev.Pl
end
