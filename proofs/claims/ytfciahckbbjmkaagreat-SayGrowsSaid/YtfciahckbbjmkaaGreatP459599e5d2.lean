/- A part of the proofs of this seat: PevCall4 PevTop PevClone G22M1 G22M2 G22M3 G22M4 G22M5 G22M Pln. -/
import Derived.Test.YtfciahckbbjmkaaGreatPc6bed1df05
import Derived.KernelRfl
import Derived.Lib.SliceRun
import Derived.IntWalk
import Derived.Sort.AssemblyPlain
set_option linter.unusedVariables false
set_option linter.unusedSimpArgs false
set_option linter.unusedSectionVars false
section
namespace Go.Pev
open Go.RowKit
theorem callable_of {P : Program} {g : FuncId} {fn : Func} (hf : P.funcs[g]? = some fn) (hb : fn.body.isSome = true) (hn : (fn.name == "runtime.NumGoroutine") = false) : Callable P g := by
  intro args w
  obtain ⟨c, hc⟩ := Option.isSome_iff_exists.1 hb
  have hn' : ¬ fn.name = "runtime.NumGoroutine" := by simpa using hn
  simp [callFunc, hf, hn', hc]
theorem LoopsOK_none {P : Program} {np : Nat} {h : Hints} : ∀ (c : Code) (n : Nat), loops c = 0 → LoopsOK P np h c n := by
  intro c
  induction c with
  | seq a b iha ihb => intro n hl; simp only [loops] at hl; exact ⟨iha n (by omega), ihb _ (by omega)⟩
  | cond c a b iha ihb => intro n hl; simp only [loops] at hl; exact ⟨iha n (by omega), ihb _ (by omega)⟩
  | block id c ih => intro n hl; simp only [loops] at hl; exact ih n hl
  | loop c ih => intro n hl; simp only [loops] at hl; omega
  | _ => intro n _; trivial
section
variable {P : Program} {E : Env} {h : Hints} {g : FuncId} {fn : Func} {c : Code}
theorem tmps_ok {w : World} {F : Nat → Prop} {m : Mp} {H : List Ob} {args : List AV} {vals : List Value} (hr : RepL w F m H args vals) (n : Nat) (t : Nat) :
    Rep w F m H ((args ++ List.replicate n AV.junk).getD t .junk) ((vals.toArray ++ Array.replicate n undef).getD t undef) := by
  have hl := RepL_length hr
  have e : (vals.toArray ++ Array.replicate n undef).getD t undef = (vals ++ List.replicate n undef).getD t undef := by
    rw [Array.getD_eq_getD_getElem?, List.getD_eq_getElem?_getD, ← Array.getElem?_toList]
    simp
  rw [e, List.getD_eq_getElem?_getD, List.getD_eq_getElem?_getD]
  rcases Nat.lt_or_ge t args.length with ht | ht
  · rw [List.getElem?_append_left ht, List.getElem?_append_left (by omega)]
    obtain ⟨v, hv, hrv⟩ := RepL_get hr (i := t) (c := args[t]) (List.getElem?_eq_getElem ht)
    rw [hv, List.getElem?_eq_getElem ht]
    exact hrv
  · rw [List.getElem?_append_right ht, List.getElem?_replicate]
    split <;> (unfold Rep; trivial)
theorem mkInline_ok (hE : ∀ g, SpecOK P g (E.spec g)) (hL : LocOK E) (hf : P.funcs[g]? = some fn) (hb : fn.body = some c) (hc : Callable P g) (hl : loops c = 0) :
    SpecOK P g (mkInline P E h fn) := by
  intro R args H fz slot k r hk
  simp only [mkInline, hb] at hk
  split at hk
  · cases hk
  · rename_i hle
    simp only [decide_eq_true_eq] at hle
    obtain ⟨e, st', h1, h2, h3⟩ := pevCode_ok hE hL (np := H.length) c 0 (LoopsOK_none c 0 hl) R _ _ r hk
    have key : ∃ vs, resultsAV P st' fn.results.toList = some vs ∧ k (single vs) { heap := some (st'.heap, st'.frz) } = some r ∧ (e = .normal ∨ e = .ret) := by
      cases e with
      | normal =>
        simp only at h1
        split at h1
        · rename_i vs hvs; exact ⟨vs, hvs, h1, .inl rfl⟩
        · cases h1
      | ret =>
        simp only at h1
        split at h1
        · rename_i vs hvs; exact ⟨vs, hvs, h1, .inr rfl⟩
        · cases h1
      | _ => simp at h1
    obtain ⟨vs, hvs, h4, he⟩ := key
    refine ⟨_, _, h4, fun R' k' => ?_, hc, fun w F m vals hi hr => ?_⟩
    · simp only [mkInline, hb, hle, decide_true]
      refine (h2 R' _).trans ?_
      rcases he with rfl | rfl <;> simp only [hvs]
    · have hlv := RepL_length hr
      refine calls_of_wp hf hb ?_
      have hsi : SI w F m { tmps := args ++ List.replicate (fn.ntmps - args.length) .junk, heap := H, frz := fz } { tmps := vals.toArray ++ Array.replicate (fn.ntmps - vals.toArray.size) undef, defers := [] } := by
        refine ⟨fun t => ?_, ?_, hi, rfl⟩
        · have := tmps_ok hr (fn.ntmps - args.length) t
          simp only [List.size_toArray, hlv]
          exact this
        · simp [hlv]
      refine h3 w F m _ _ hsi fun a' w' F' m' s1 x1 => ?_
      obtain ⟨us, r1, r2⟩ := results_ok s1 hvs
      have hgo : Goes w F m H fz w' F' m' st'.heap st'.frz := ⟨⟨x1.os, x1.tape, x1.output, x1.size, x1.keep, x1.sub, x1.bnd, x1.own, fun i o ho hf => x1.comp i o (lt_of_get ho) ho hf⟩, s1.heap⟩
      have hpost : a'.defers = [] ∧ ∃ v, (results fn a'.tmps).run P w' = .ok v w' ∧ (fun (en : Ending) (w' : World) => ∃ u, en = .returned u ∧ ∃ F' m', Goes w F m H fz w' F' m' (appH { heap := some (st'.heap, st'.frz) } H) (appF { heap := some (st'.heap, st'.frz) } fz) ∧ Rep w' F' m' (appH { heap := some (st'.heap, st'.frz) } H) (single vs) u) (.returned v) w' :=
        ⟨s1.defers, _, r1, _, rfl, F', m', hgo, single_ok r2⟩
      rcases he with rfl | rfl <;> exact hpost
theorem alive_enc {w : World} {F : Nat → Prop} {m : Mp} {H : List Ob} {fz : List Bool} {bs : List Bnd} {m' : Mp} {E : St} {val : Nat → Value} (h : Inv w F m H fz bs m' E val) {j : Nat} {o : Ob} (hj : E.heap[j]? = some o) : alive o := by
  have hlt := lt_of_get hj
  rw [h.lenH] at hlt
  have hx : bs[j]? = some bs[j] := List.getElem?_eq_getElem hlt
  have hb := h.ob j _ hx
  cases hc : bs[j] with
  | none => rw [hc] at hb; simp only [Bound] at hb; obtain ⟨_, T, e, e2, _⟩ := hb; rw [hj] at e2; cases e2; trivial
  | whole id =>
    rw [hc] at hb; simp only [Bound] at hb
    rcases hb.2 with ⟨T, t, xs, _, a2, _⟩ | ⟨k, v, es, _, a2⟩ | ⟨cs, cs', b, c, vs, T, _, a2, _⟩ <;> (rw [hj] at a2; cases a2; trivial)
  | cut id => rw [hc] at hb; simp only [Bound] at hb; obtain ⟨T, t, xs, n, _, _, a3, _⟩ := hb; rw [hj] at a3; cases a3; trivial
theorem finish_some {np : Nat} {outs : Items} {rs : List RS} {st : St} {y : denL (leaves outs)} (h : finish np P fn outs rs st = some y) :
    ∃ vs tm bs fr, resultsAV P st fn.results.toList = some vs ∧ flatRes rs vs = some tm ∧ dec tm st.heap outs st.frz [] = some (y, bs, fr) ∧ pins np 0 bs = true := by
  unfold finish at h
  split at h
  · rename_i vs hvs
    split at h
    · rename_i tm htm
      split at h
      · rename_i y' bs fr hd
        split at h
        · rename_i hp
          simp only [Option.some.injEq] at h; subst h
          exact ⟨vs, tm, bs, fr, hvs, htm, hd, hp⟩
        · cases h
      · cases h
    · cases h
  · cases h
theorem mkCall_ok (hE : ∀ g, SpecOK P g (E.spec g)) (hL : LocOK E) (hf : P.funcs[g]? = some fn) (hb : fn.body = some c) (hc : Callable P g)
    {na : Nat} (hna : na ≤ fn.ntmps) {its outs : Items} {rs : List RS} {f : denL (leaves its) → Option (denL (leaves outs))} (hfun : ∀ x, f x = pevCall P E h fn its outs rs x) (hl : LoopsOK P (nobj its) h c 0) :
    SpecOK P g (mkCall na its outs rs f) := by
  intro R args H fz slot k r hk
  simp only [mkCall] at hk
  split at hk
  · cases hk
  · rename_i x bs fr hdec
    split at hk
    · cases hk
    · rename_i hchk
      simp only [Bool.and_eq_true, decide_eq_true_eq] at hchk
      obtain ⟨⟨huncut, hbl⟩, hal⟩ := hchk
      split at hk
      · cases hk
      · rename_i y hy
        -- what it hands back
        have key : ∃ e, k (single (regroup rs (renL (idsOf (nobj outs) bs slot) (encode (cellsOf rs) outs y).tmps))) e = some r ∧ e.heap = none ∧ e.objs = (idsOf (nobj outs) bs slot).zip ((encode (cellsOf rs) outs y).heap.map (renOb (idsOf (nobj outs) bs slot))) ∧
            (∀ R' (k' : AV → Eff → Option R'), backTo R' bs fr rs (encode (cellsOf rs) outs y) (idsOf (nobj outs) bs slot) H fz k' = k' (single (regroup rs (renL (idsOf (nobj outs) bs slot) (encode (cellsOf rs) outs y).tmps))) e) ∧
            idsOK H (setFrz e.frz fz) (idsOf (nobj outs) bs slot) bs = true ∧ nodupB (idsOf (nobj outs) bs slot) = true ∧
            ((e.frz = [] ∧ flatL (encode (cellsOf rs) outs y).tmps = true ∧ (encode (cellsOf rs) outs y).heap.all flatOb = true) ∨ e.frz = fr) := by
          unfold backTo at hk
          split at hk
          · rename_i hflat
            split at hk
            · rename_i hok
              simp only [Bool.and_eq_true] at hok hflat
              refine ⟨_, hk, rfl, rfl, fun R' k' => by simp only [backTo, hflat.1, hflat.2, hok.1, hok.2, Bool.and_self], hok.1, hok.2, .inl ⟨rfl, hflat.1, hflat.2⟩⟩
            · cases hk
          · rename_i hflat
            split at hk
            · rename_i hok
              simp only [Bool.and_eq_true] at hok
              refine ⟨_, hk, rfl, rfl, fun R' k' => by simp only [backTo, hflat, hok.1, hok.2, Bool.and_self], hok.1, hok.2, .inr rfl⟩
            · cases hk
        obtain ⟨e, h4, he1, he2, h5, hok, hnd, hfl⟩ := key
        refine ⟨_, e, h4, fun R' k' => ?_, hc, fun w F m vals hi hr => ?_⟩
        · simp only [mkCall, hdec, huncut, hbl, hal, hy, decide_true, Bool.and_self]
          exact h5 R' k'
        · have hlv := RepL_length hr
          rw [hfun x] at hy
          unfold pevCall at hy
          rw [hb] at hy
          simp only at hy
          obtain ⟨ex, st', g1, _, g3⟩ := pevCode_ok hE hL c 0 hl _ _ _ _ hy
          have hfin : finish (nobj its) P fn outs rs st' = some y ∧ (ex = .normal ∨ ex = .ret) := by
            cases ex with
            | normal => exact ⟨g1, .inl rfl⟩
            | ret => exact ⟨g1, .inr rfl⟩
            | _ => simp at g1
          obtain ⟨hfin, hex⟩ := hfin
          obtain ⟨vs, tm, bs', fr', hvs, htm, hd', hp⟩ := finish_some hfin
          refine calls_of_wp hf hb ?_
          -- the call's own start
          obtain ⟨F2, m2, gA, invA, _⟩ := dec_ok (val := fun t => (vals.toArray ++ Array.replicate (fn.ntmps - vals.toArray.size) undef).getD t undef) its fz [] F (fun _ => none) (blank fn.ntmps) x bs fr hi
            (fun t v ht => by
              have := tmps_ok hr (fn.ntmps - vals.toArray.size) t
              rw [List.getD_eq_getElem?_getD, List.getElem?_append_left (lt_of_get' ht), ht] at this
              exact this) (Inv.blank fn.ntmps) hdec
          have hsi : SI w F2 m2 (encode fn.ntmps its x) { tmps := vals.toArray ++ Array.replicate (fn.ntmps - vals.toArray.size) undef, defers := [] } := by
            refine ⟨invA.tmps, ?_, invA.hi gA.2, rfl⟩
            rw [encode_tlen]
            simp [hlv]
            omega
          refine g3 w F2 m2 _ _ hsi fun a' w' F' m' s1 x1 => ?_
          obtain ⟨us, r1, r2⟩ := results_ok s1 hvs
          obtain ⟨q1, q2, q3⟩ := regroup_ok htm r2
          obtain ⟨F3, m3, gC, invC, _⟩ := dec_ok (val := fun t => (flatV rs us).getD t undef) outs st'.frz [] F' (fun _ => none) (blank (cellsOf rs)) y bs' fr' s1.heap
            (fun t v ht => by
              obtain ⟨u, hu, hru⟩ := RepL_get q1 ht
              rw [List.getD_eq_getElem?_getD, hu]
              exact hru) (Inv.blank (cellsOf rs)) hd'
          have hnb : ∀ j id, bs[j]? = some (.whole id) → j < nobj its := fun j id hj => by rw [← hbl]; exact lt_of_get' hj
          have srcA : ∀ {j b c}, owned (encode fn.ntmps its x).heap (encode fn.ntmps its x).frz j → m2 j = some (b, c) → ∃ id, bs[j]? = some (.whole id) ∧ owned H (setFrz fr fz) id ∧ m id = some (b, c) := by
            intro j b c ho hm
            obtain ⟨y, id, k1, k2, k3, k4⟩ := invA.src ho hm
            rw [List.all_eq_true] at huncut
            have := huncut y (List.mem_of_getElem? k1)
            cases y with
            | none => simp [Bnd.id?] at k2
            | whole i => simp only [Bnd.id?, Option.some.injEq] at k2; subst k2; exact ⟨_, k1, k3, k4⟩
            | cut i => simp [Bnd.uncut] at this
          -- the caller's objects in it, at its end
          have hpin : ∀ j id, bs[j]? = some (.whole id) → owned H (setFrz fr fz) id ∧ ∃ o o1, H[id]? = some o ∧ alive o ∧ (encode (cellsOf rs) outs y).heap[j]? = some o1 ∧ sameShape o o1 ∧ m3 j = m id := by
            intro j id hj
            have hA := invA.ob j _ hj
            simp only [Bound] at hA
            obtain ⟨eA, hA⟩ := hA
            have hjn := hnb j id hj
            have hC := invC.ob j _ (by have := pins_get _ 0 bs' hp j hjn; rw [Nat.zero_add] at this; exact this)
            simp only [Bound] at hC
            obtain ⟨eC, hC⟩ := hC
            have start : ∃ o o0, H[id]? = some o ∧ alive o ∧ (encode fn.ntmps its x).heap[j]? = some o0 ∧ sameShape o o0 ∧ alive o0 ∧ owned H (setFrz fr fz) id := by
              rcases hA with ⟨T, t, xs, a1, a2, a3⟩ | ⟨k, v, es, a1, a2⟩ | ⟨cs, cs', b, cc, vs, T, a1, a2, _⟩
              · exact ⟨_, _, a1, trivial, a2, ⟨rfl, rfl⟩, trivial, owned_of a1 trivial a3⟩
              · exact ⟨_, _, a1, trivial, a2, trivial, trivial, by unfold owned; rw [a1]; trivial⟩
              · exact ⟨_, _, a1, trivial, a2, trivial, trivial, by unfold owned; rw [a1]; trivial⟩
            obtain ⟨o, o0, s1, s2, s3, s4, s5, s6⟩ := start
            have mid := x1.comp j o0 hjn s3 (alive_ne s5).1
            have fin : ∃ o2 o1, st'.heap[j]? = some o2 ∧ alive o2 ∧ (encode (cellsOf rs) outs y).heap[j]? = some o1 ∧ sameShape o2 o1 := by
              rcases hC with ⟨T, t, xs, a1, a2, a3⟩ | ⟨k, v, es, a1, a2⟩ | ⟨cs, cs', b, cc, vs, T, a1, a2, _⟩
              · exact ⟨_, _, a1, trivial, a2, ⟨rfl, rfl⟩⟩
              · exact ⟨_, _, a1, trivial, a2, trivial⟩
              · exact ⟨_, _, a1, trivial, a2, trivial⟩
            obtain ⟨o2, o1, t1, t2, t3, t4⟩ := fin
            rcases mid with md | ⟨_, o2', md1, md2, md3⟩
            · rw [t1] at md; cases md; exact t2.elim
            · rw [t1] at md1; cases md1
              exact ⟨s6, o, o1, s1, s2, t3, (s4.trans md2).trans t4, by rw [eC, md3, eA]⟩
          have hiC1 := invC.hi gC.2
          have hblk : ∀ j b cc, owned (encode (cellsOf rs) outs y).heap (encode (cellsOf rs) outs y).frz j → m3 j = some (b, cc) → (∃ id c', bs[j]? = some (.whole id) ∧ m id = some (b, c')) ∨ w.heap.size ≤ b := by
            intro j b cc ho hm
            obtain ⟨_, i', k1, k2, k3, k4⟩ := invC.src ho hm
            rcases x1.own i' b cc (owned_setFrz k3) k4 with ⟨i, c0, l1, l2⟩ | h
            · left
              obtain ⟨id, n1, n2, n3⟩ := srcA l1 l2
              obtain ⟨_, o, o1, p1, p2, p3, p4, p5⟩ := hpin i id n1
              have hoi : owned (encode (cellsOf rs) outs y).heap (encode (cellsOf rs) outs y).frz i := owned_of p3 (alive_enc invC p3) (invC.frz i)
              by_cases hij : j = i
              · subst hij; exact ⟨id, c0, n1, n3⟩
              · exact absurd rfl (hiC1.sep j i b cc b c0 ho hoi hij hm (by rw [p5]; exact n3))
            · exact .inr h
          have hkeep : ∀ b, b < w.heap.size → (∀ (j id : Nat) (c : Nat), bs[j]? = some (.whole id) → m id ≠ some (b, c)) → w'.heap[b]? = w.heap[b]? := by
            intro b hb hn
            refine x1.keep b hb fun i cc ho hm => ?_
            obtain ⟨id, n1, _, n3⟩ := srcA ho hm
            exact hn i id cc n1 n3
          have hbnd : ∀ b, F3 b → F2 b ∨ (∃ (j id c : Nat), bs[j]? = some (.whole id) ∧ m id = some (b, c)) ∨ w.heap.size ≤ b := by
            have hx : ∀ {i b cc}, owned (encode fn.ntmps its x).heap (encode fn.ntmps its x).frz i → m2 i = some (b, cc) → ∃ (j id c : Nat), bs[j]? = some (.whole id) ∧ m id = some (b, c) := by
              intro i b cc ho hm
              obtain ⟨id, n1, _, n3⟩ := srcA ho hm
              exact ⟨i, id, cc, n1, n3⟩
            intro b hb
            rcases gC.1.bnd b hb with h | ⟨i, cc, ho, hm⟩ | h
            · rcases x1.bnd b h with h | ⟨i, cc, ho, hm⟩ | h
              · exact .inl h
              · exact .inr (.inl (hx ho hm))
              · exact .inr (.inr h)
            · rcases x1.own i b cc ho hm with ⟨i', c0, ho, hm⟩ | h
              · exact .inr (.inl (hx ho hm))
              · exact .inr (.inr h)
            · exact .inr (.inr (Nat.le_trans x1.size h))
          have hidl : (idsOf (nobj outs) bs slot).length = (encode (cellsOf rs) outs y).heap.length := by
            rw [idsOf_len]; unfold encode; rw [enc_hlen]; simp [blank]
          obtain ⟨FR, hFR, hRR⟩ : ∃ FR, ((FR = F ∧ setFrz e.frz fz = fz ∧ (encode (cellsOf rs) outs y).heap.all flatOb = true) ∨ (FR = F3 ∧ setFrz e.frz fz = setFrz fr fz)) ∧ RepL w' FR m3 (encode (cellsOf rs) outs y).heap (encode (cellsOf rs) outs y).tmps (flatV rs us) := by
            have hrt : RepL w' F3 m3 (encode (cellsOf rs) outs y).heap (encode (cellsOf rs) outs y).tmps (flatV rs us) := by
              refine RepL_of (by rw [encode_tlen, q2]) fun i a u ha hu => ?_
              have := invC.tmps i
              rw [List.getD_eq_getElem?_getD] at this
              have ha' : (enc outs y (blank (cellsOf rs))).tmps[i]? = some a := ha
              rw [ha', List.getD_eq_getElem?_getD, hu] at this
              exact this
            rcases hfl with ⟨f1, f2, f3⟩ | f1
            · exact ⟨F, .inl ⟨rfl, by rw [f1]; rfl, f3⟩, RepL.flat _ f2 hrt⟩
            · exact ⟨F3, .inr ⟨rfl, by rw [f1]⟩, hrt⟩
          obtain ⟨hgo, hmv⟩ := call_back (ids := idsOf (nobj outs) bs slot) hi gA hpin hblk x1.os x1.tape x1.output x1.size hkeep (fun b h => gC.1.sub b (x1.sub b h)) hbnd hiC1 (fun j o hj => alive_enc invC hj) invC.frz hidl hok hnd hFR
          have hH : appH e H = setObjs ((idsOf (nobj outs) bs slot).zip ((encode (cellsOf rs) outs y).heap.map (renOb (idsOf (nobj outs) bs slot)))) H := by rw [appH_none he1, he2]
          have hZ : appF e fz = setFrz e.frz fz := appF_none he1 fz
          have hpost : a'.defers = [] ∧ ∃ v, (results fn a'.tmps).run P w' = .ok v w' ∧ (fun (en : Ending) (w' : World) => ∃ u, en = .returned u ∧ ∃ F' m', Goes w F m H fz w' F' m' (appH e H) (appF e fz) ∧ Rep w' F' m' (appH e H) (single (regroup rs (renL (idsOf (nobj outs) bs slot) (encode (cellsOf rs) outs y).tmps))) u) (.returned v) w' := by
            refine ⟨s1.defers, _, r1, _, rfl, FR, mOf (idsOf (nobj outs) bs slot) m3 m, ?_, ?_⟩
            · rw [hH, hZ]; exact hgo
            · rw [hH]
              exact single_ok (q3 _ _ _ _ _ (RepL.ren hmv _ hRR))
          rcases hex with rfl | rfl <;> exact hpost
end
end Go.Pev
end
section
namespace Go.Pev
open Go.RowKit
def nthLoop : Code → Nat → Option Code
  | .seq a b, n => match nthLoop a n with
    | some c => some c
    | none => nthLoop b (n - loops a)
  | .cond _ a b, n => match nthLoop a n with
    | some c => some c
    | none => nthLoop b (n - loops a)
  | .block _ c, n => nthLoop c n
  | .loop c, n => match n with
    | 0 => some c
    | n + 1 => nthLoop c n
  | _, _ => none
def bodyOf (f : Func) : Code := match f.body with
  | some c => c
  | none => .skip
def loopOf (f : Func) (n : Nat) : Code := (nthLoop (bodyOf f) n).getD .skip
def loopList : Code → Nat → List (Nat × Code)
  | .seq a b, n => loopList a n ++ loopList b (n + loops a)
  | .cond _ a b, n => loopList a n ++ loopList b (n + loops a)
  | .block _ c, n => loopList c n
  | .loop c, n => [(n, c)]
  | _, _ => []
def AllOK (P : Program) (np : Nat) (h : Hints) : List (Nat × Code) → Prop
  | [] => True
  | p :: l => CodeOK P np (.loop p.2) (h.loop p.1) ∧ AllOK P np h l
theorem AllOK_app {P : Program} {np : Nat} {h : Hints} : ∀ {a b : List (Nat × Code)}, AllOK P np h (a ++ b) → AllOK P np h a ∧ AllOK P np h b := by
  intro a
  induction a with
  | nil => exact fun h => ⟨trivial, h⟩
  | cons p a ih => intro b h; exact ⟨⟨h.1, (ih h.2).1⟩, (ih h.2).2⟩
theorem LoopsOK_all {P : Program} {np : Nat} {h : Hints} : ∀ (c : Code) (n : Nat), AllOK P np h (loopList c n) → LoopsOK P np h c n := by
  intro c
  induction c with
  | seq a b iha ihb => intro n hl; have := AllOK_app hl; exact ⟨iha n this.1, ihb _ this.2⟩
  | cond c a b iha ihb => intro n hl; have := AllOK_app hl; exact ⟨iha n this.1, ihb _ this.2⟩
  | block id c ih => intro n hl; exact ih n hl
  | loop c ih => intro n hl; exact hl.1
  | _ => intro n _; trivial
theorem LoopsOK_of {P : Program} {np : Nat} {h : Hints} {c : Code} {n : Nat} {l : List (Nat × Code)} (e : loopList c n = l) (a : AllOK P np h l) : LoopsOK P np h c n := LoopsOK_all c n (by rw [e]; exact a)
def EnvOK (P : Program) (E : Env) : Prop := (∀ g, SpecOK P g (E.spec g)) ∧ LocOK E
def Env.none : Env := { spec := fun _ _ _ _ _ _ _ => Option.none, loc := fun _ => false, loc2 := fun _ => true }
theorem Env.none_ok {P : Program} : EnvOK P Env.none := ⟨fun g R args H fz slot k r h => by simp [Env.none] at h, fun g h => by simp [Env.none] at h, fun g _ R args H H' fz fz' slot k S _ _ _ => rfl⟩
def Env.ext (E : Env) (g : FuncId) (loc loc2 : Bool) (s : Spec) : Env where
  spec x := match Nat.beq x g with
    | true => s
    | false => E.spec x
  loc x := match Nat.beq x g with
    | true => loc
    | false => E.loc x
  loc2 x := match Nat.beq x g with
    | true => loc2
    | false => E.loc2 x
theorem Env.ext_ok {P : Program} {E : Env} {g : FuncId} {loc loc2 : Bool} {s : Spec} (h : EnvOK P E) (hs : SpecOK P g s) (hl : loc = true → LocalSpec s) (hl2 : loc2 = true → LocalIn s) : EnvOK P (E.ext g loc loc2 s) := by
  refine ⟨?_, ?_, ?_⟩
  · intro x
    simp only [Env.ext]
    cases hx : Nat.beq x g with
    | true => have := Nat.eq_of_beq_eq_true hx; subst this; exact hs
    | false => exact h.1 x
  · intro x hx
    simp only [Env.ext] at hx ⊢
    cases hb : Nat.beq x g with
    | true => rw [hb] at hx; exact hl hx
    | false => rw [hb] at hx; exact h.2.1 x hx
  · intro x hx
    simp only [Env.ext] at hx ⊢
    cases hb : Nat.beq x g with
    | true => rw [hb] at hx; exact hl2 hx
    | false => rw [hb] at hx; exact h.2.2 x hx
section
variable {P : Program} {E : Env} {h : Hints} {g : FuncId} {fn : Func}
theorem body_eq (hb : fn.body.isSome = true) : fn.body = some (bodyOf fn) := by
  unfold bodyOf
  cases h : fn.body with
  | none => rw [h] at hb; cases hb
  | some c => rfl
theorem call_spec (hE : EnvOK P E) (hf : P.funcs[g]? = some fn) (hb : fn.body.isSome = true) (hn : (fn.name == "runtime.NumGoroutine") = false)
    {na : Nat} (hna : (Nat.ble na fn.ntmps) = true) {its outs : Items} {rs : List RS} {f : denL (leaves its) → Option (denL (leaves outs))} (hfun : ∀ x, f x = pevCall P E h fn its outs rs x) (hl : LoopsOK P (nobj its) h (bodyOf fn) 0) :
    SpecOK P g (mkCall na its outs rs f) :=
  mkCall_ok hE.1 hE.2 hf (body_eq hb) (callable_of hf hb hn) (Nat.le_of_ble_eq_true hna) hfun hl
theorem inline_spec (hE : EnvOK P E) (hf : P.funcs[g]? = some fn) (hb : fn.body.isSome = true) (hn : (fn.name == "runtime.NumGoroutine") = false) (hl : loops (bodyOf fn) = 0) : SpecOK P g (mkInline P E h fn) :=
  mkInline_ok hE.1 hE.2 hf (body_eq hb) (callable_of hf hb hn) hl
theorem loop_ok {h' : Hints} (hE : EnvOK P E) {np nt n : Nat} {body : Code} {its : Items} {os : Outs} {stp : denL (leaves its) → Option (denL (leaves its) ⊕ OutT os)}
    (hstep : ∀ v, stp v = roundOf P E h' n np nt body its os v) (hl : LoopsOK P np h' body n) : CodeOK P np (.loop body) (loopBy np nt its os stp) := loopBy_ok hE.1 hE.2 hstep hl
def datIn : Items → Bool
  | [] => true
  | (.tmp _, .dat _) :: r => datIn r
  | _ :: _ => false
theorem dec_local {H H' : List Ob} {tm : List AV} (ha : ∀ id ∈ refsL tm, H[id]? = H'[id]?) : ∀ (its : Items) (fz fz' : List Bool), datIn its = true → dec tm H its fz [] = dec tm H' its fz' [] := by
  intro its
  induction its with
  | nil => intro fz fz' _; rfl
  | cons p r ih =>
    intro fz fz' hd
    obtain ⟨l, c⟩ := p
    cases l <;> cases c <;> simp only [datIn] at hd <;> try (cases hd; done)
    rename_i t ty
    simp only [dec, look]
    cases hv : tm[t]? with
    | none => rfl
    | some v =>
      have hsub : ∀ id ∈ refsAV v, H[id]? = H'[id]? := fun id hid => ha id (by
        clear ih hd ha
        induction tm generalizing t with
        | nil => simp at hv
        | cons a tm iht =>
          cases t with
          | zero => simp at hv; subst hv; simp [refsL, hid]
          | succ t => simp only [refsL, List.mem_append]; exact .inr (iht t (by simpa using hv)))
      simp only
      rw [asTy_local ty v hsub]
      cases asTy H' ty v with
      | none => rfl
      | some q =>
        obtain ⟨x, f⟩ := q
        simp only
        have hfr : f.all (fresh? []) = true := by simp [fresh?]
        rw [hfr]
        simp only
        rw [ih (setFrz f fz) (setFrz f fz') hd]
theorem idsOf_nil : ∀ (n slot : Nat), idsOf n [] slot = List.range' slot n := by
  intro n
  induction n with
  | zero => intro slot; rfl
  | succ n ih => intro slot; simp only [idsOf, List.range'_succ]; rw [ih]
theorem idsOK_local {H H' : List Ob} {fz fz' : List Bool} : ∀ (ids : List Nat), (∀ i ∈ ids, isFree H fz i = isFree H' fz' i) → idsOK H fz ids [] = idsOK H' fz' ids [] := by
  intro ids
  induction ids with
  | nil => intro _; rfl
  | cons a ids ih =>
    intro h
    simp only [idsOK, List.tail_nil]
    rw [h a (by simp), ih fun i hi => h i (by simp [hi])]
theorem dec_dat_bs {H : List Ob} {tm : List AV} : ∀ (its : Items) (fz : List Bool) (bs : List Bnd) (x : denL (leaves its)) (bs' : List Bnd) (fr : List Nat), datIn its = true → dec tm H its fz bs = some (x, bs', fr) → bs' = bs := by
  intro its
  induction its with
  | nil => intro fz bs x bs' fr _ h; simp only [dec, Option.some.injEq] at h; cases h; rfl
  | cons p r ih =>
    intro fz bs x bs' fr hd h
    obtain ⟨l, c⟩ := p
    cases l <;> cases c <;> simp only [datIn] at hd <;> try (cases hd; done)
    simp only [dec] at h
    split at h
    · split at h
      · split at h
        · split at h
          · rename_i xs bs1 g hdd
            simp only [Option.some.injEq] at h
            cases h
            exact ih _ _ _ _ _ hd hdd
          · cases h
        · cases h
      · cases h
    · cases h
theorem mkCall_local {na : Nat} {its outs : Items} {rs : List RS} {f : denL (leaves its) → Option (denL (leaves outs))} (hd : datIn its = true) (hn : Nat.ble (nobj outs) 4 = true) : LocalSpec (mkCall na its outs rs f) := by
  intro R args H H' fz fz' slot k ha
  unfold mkCall
  rw [dec_local ha.heap its fz fz' hd]
  split
  · rfl
  · rename_i x bs fr hdec
    have hbs := dec_dat_bs its fz' [] x bs fr hd hdec
    subst hbs
    split
    · rfl
    · split
      · rfl
      · rename_i y hy
        have hfree : ∀ (g : List Nat) (i : Nat), i ∈ idsOf (nobj outs) [] slot → isFree H (setFrz g fz) i = isFree H' (setFrz g fz') i := by
          intro g i hi
          rw [idsOf_nil, List.mem_range'_1] at hi
          have := Nat.le_of_ble_eq_true hn
          exact isFree_local ha hi.1 (by omega) g
        unfold backTo
        rw [show idsOK H fz (idsOf (nobj outs) [] slot) [] = idsOK H' fz' (idsOf (nobj outs) [] slot) [] from idsOK_local _ (hfree []), idsOK_local _ (hfree fr)]
end
end Go.Pev
end
section
namespace Go.Pev
open Go.RowKit
def cloneR {α : Type} (xs : List α) : Option (List α) := match fitsR (dlen xs) with
  | true => some xs
  | false => none
def opsAt : Code → Nat → List Oper
  | .region id ops _, n => if id = n then ops.toList else []
  | .seq a b, n => opsAt a n ++ opsAt b n
  | .cond _ a b, n => opsAt a n ++ opsAt b n
  | .block _ c, n => opsAt c n
  | .loop c, n => opsAt c n
  | _, _ => []
def opAt (fn : Func) (n i : Nat) : Oper := ((opsAt (bodyOf fn) n)[i]?).getD default
structure CloneShape (P : Program) (fn : Func) (T e : TypeId) (t : Ty) : Prop where
  body : fn.body = some (.seq (.region 0 #[opAt fn 0 0] false) (.seq (.seq (.region 1 #[opAt fn 1 0, opAt fn 1 1] false) (.cond (.tmp 4) (.seq (.region 2 #[opAt fn 2 0] false) .ret) .skip)) (.seq (.region 3 #[opAt fn 3 0, opAt fn 3 1, opAt fn 3 2, opAt fn 3 3] false) .ret)))
  nt : fn.ntmps = 8
  res : fn.results = #[.tmp 2]
  d : (opAt fn 0 0).dst = some 2 ∧ (opAt fn 1 0).dst = some 3 ∧ (opAt fn 1 1).dst = some 4 ∧ (opAt fn 2 0).dst = some 2 ∧ (opAt fn 3 0).dst = some 5 ∧ (opAt fn 3 1).dst = some 6 ∧ (opAt fn 3 2).dst = some 7 ∧ (opAt fn 3 3).dst = some 2
  g : (opAt fn 0 0).guard = none ∧ (opAt fn 1 0).guard = none ∧ (opAt fn 1 1).guard = none ∧ (opAt fn 2 0).guard = none ∧ (opAt fn 3 0).guard = none ∧ (opAt fn 3 1).guard = none ∧ (opAt fn 3 2).guard = none ∧ (opAt fn 3 3).guard = none
  o00 : (opAt fn 0 0).op = .assign (.const (.slice none 0 0))
  o10 : (opAt fn 1 0).op = .move (.tmp 0)
  o11 : (opAt fn 1 1).op = .binOp .eql T (.tmp 3) (.const (.slice none 0 0)) T
  o20 : (opAt fn 2 0).op = .assign (.const (.slice none 0 0))
  o30 : (opAt fn 3 0).op = .buildSlice T 0 #[]
  o31 : (opAt fn 3 1).op = .move (.tmp 0)
  o32 : (opAt fn 3 2).op = .call { callee := .builtin .append, args := #[.tmp 5, .tmp 6], argTypes := #[T, T] }
  o33 : (opAt fn 3 3).op = .assign (.tmp 7)
  sl : sliceAt P T = some (e, t)
  z : (zeroAt P e).isSome = true
  by1 : (P.info? e).map (fun i => decide (i.bytes ≤ 1024)) = some true
section
variable {P : Program} {g : FuncId}
variable {fn : Func} {T e : TypeId} {t : Ty}
end
end Go.Pev
end
section
namespace Go.Pev
set_option maxRecDepth 100000
noncomputable section
attribute [local irreducible] fitsR fitsIR idxR sublR iltR ileR ieqR quoR remR shlR shrR cloneR iterO many IntKind.wrap dlen dset dget dapp dtake dcut drep dnat dclear imin imax lookupM storeM
-- archipelago/archipelagoref01.Ints
abbrev ints01_i : Items := [(.tmp 0, .dat (.slice (.int .i64))), (.tmp 1, .dat (.slice (.int .i64)))]
abbrev ints01_o : Items := [(.tmp 0, .dat .bool)]
abbrev ints01_r : List RS := [.one]
abbrev ints01_i0 : Items := [(.tmp 0, .dat (.slice (.int .i64))), (.tmp 1, .dat (.slice (.int .i64))), (.tmp 5, .di)]
abbrev ints01_o0 : Outs := [(.ret, [(.tmp 4, .dat .bool)]), (.exit 0, [])]
def ints01_s0 [Lk] : (List Int × List Int × Int × Unit) → Option ((List Int × List Int × Int × Unit) ⊕ (Bool × Unit) ⊕ (Unit) ⊕ Unit) := fun (a0, a1, a2, _) =>
 match (ilt a2 (dlen a0)) with
 | true => match idx a0 a2 with
  | none => none
  | some x0 => match idx a1 a2 with
   | none => none
   | some x1 => match (!(ieq x0 x1)) with
    | true => some (.inr (.inl (false, ())))
    | false => some (.inl (a0, a1, (IntKind.wrap .i64 (a2 + 1)), ()))
 | false => some (.inr (.inr (.inl ())))
def ints01_d [Lk] : (List Int × List Int × Unit) → Option ((Bool × Unit)) := fun (a0, a1, _) =>
 match (!(ieq (dlen a0) (dlen a1))) with
 | true => some (false, ())
 | false => match iterL ints01_s0 many (a0, a1, 0, ()) with
  | none => none
  | some r => match r with
   | .inl (o0, _) => some (o0, ())
   | .inr r => match r with
    | .inl _ => some (true, ())
    | .inr _ => none
def ints01 [Lk] := fun v => Lk.f (ints01_d v)
theorem ints01_eq v : ints01 v = ints01_d v := lock_eq _
-- archipelago/tour.sized
abbrev tsized_i : Items := [(.tmp 0, .di)]
abbrev tsized_o : Items := [(.tmp 0, .dat .bool)]
abbrev tsized_r : List RS := [.one]
def tsized_d [Lk] : (Int × Unit) → Option ((Bool × Unit)) := fun (a0, _) =>
 match (ile 1 a0) with
 | true => some ((ile a0 64), ())
 | false => some (false, ())
def tsized [Lk] := fun v => Lk.f (tsized_d v)
theorem tsized_eq v : tsized v = tsized_d v := lock_eq _
-- archipelago/tour.in
abbrev tin_i : Items := [(.tmp 0, .di), (.tmp 1, .di)]
abbrev tin_o : Items := [(.tmp 0, .dat .bool)]
abbrev tin_r : List RS := [.one]
def tin_d [Lk] : (Int × Int × Unit) → Option ((Bool × Unit)) := fun (a0, a1, _) =>
 match tsized (a0, ()) with
 | none => none
 | some (y0, _) => match y0 with
  | true => match (ile 0 a1) with
   | true => some ((ilt a1 a0), ())
   | false => some (false, ())
  | false => some (false, ())
def tin [Lk] := fun v => Lk.f (tin_d v)
theorem tin_eq v : tin v = tin_d v := lock_eq _
-- archipelago/tour.Arc
abbrev tarc_i : Items := [(.tmp 0, .di), (.tmp 1, .di), (.tmp 2, .di)]
abbrev tarc_o : Items := [(.tmp 0, .di)]
abbrev tarc_r : List RS := [.one]
def tarc_d [Lk] : (Int × Int × Int × Unit) → Option ((Int × Unit)) := fun (a0, a1, a2, _) =>
 match (ieq a1 a2) with
 | true => some ((-1 : Int), ())
 | false => match tin (a0, a1, ()) with
  | none => none
  | some (y0, _) => match (!y0) with
   | true => some ((-1 : Int), ())
   | false => match tin (a0, a2, ()) with
    | none => none
    | some (y1, _) => match (!y1) with
     | true => some ((-1 : Int), ())
     | false => some ((IntKind.wrap .i64 ((IntKind.wrap .i64 (a0 * (IntKind.wrap .i64 (a1 + 1)))) + a2)), ())
def tarc [Lk] := fun v => Lk.f (tarc_d v)
theorem tarc_eq v : tarc v = tarc_d v := lock_eq _
-- archipelago/tour.Token
abbrev ttoken_i : Items := [(.tmp 0, .di), (.tmp 1, .di)]
abbrev ttoken_o : Items := [(.tmp 0, .di), (.tmp 1, .di), (.tmp 2, .dat .bool), (.tmp 3, .dat .bool)]
abbrev ttoken_r : List RS := [.one, .one, .one, .one]
def ttoken_d [Lk] : (Int × Int × Unit) → Option ((Int × Int × Bool × Bool × Unit)) := fun (a0, a1, _) =>
 match tsized (a0, ()) with
 | none => none
 | some (y0, _) => match (!y0) with
  | true => some (0, 0, false, false, ())
  | false => match (ilt a1 0) with
   | true => some (0, 0, false, false, ())
   | false => match (ile (IntKind.wrap .i64 (a0 * (IntKind.wrap .i64 (a0 + 1)))) a1) with
    | true => some (0, 0, false, false, ())
    | false => match (ilt a1 a0) with
     | true => some (a1, 0, false, true, ())
     | false => match quo? .i64 a1 a0 with
      | none => none
      | some x1 => match rem? a1 a0 with
       | none => none
       | some x2 => match (ieq (IntKind.wrap .i64 (x1 - 1)) x2) with
        | true => some (0, 0, false, false, ())
        | false => some ((IntKind.wrap .i64 (x1 - 1)), x2, true, true, ())
def ttoken [Lk] := fun v => Lk.f (ttoken_d v)
theorem ttoken_eq v : ttoken v = ttoken_d v := lock_eq _
-- archipelago/tour.Make
abbrev tmake_i : Items := [(.tmp 0, .di)]
abbrev tmake_o : Items := [(.tmp 0, .di), (.tmp 1, .own 43 (.slice (.int .i64))), (.tmp 2, .di)]
abbrev tmake_r : List RS := [.agg 2, .one]
abbrev tmake_i0 : Items := [(.tmp 2, .box 2), (.cell 0 0, .di), (.cell 0 1, .nil (.slice (.int .i64))), (.tmp 4, .box 2), (.cell 1 0, .di), (.cell 1 1, .own 43 (.slice (.int .i64))), (.tmp 12, .di), (.tmp 13, .di)]
abbrev tmake_o0 : Outs := [(.exit 0, [(.tmp 2, .box 2), (.cell 0 0, .di), (.cell 0 1, .nil (.slice (.int .i64))), (.tmp 4, .box 2), (.cell 1 0, .di), (.cell 1 1, .own 43 (.slice (.int .i64)))])]
def tmake_s0 [Lk] : (Int × Int × List (List Int) × Int × Int × Unit) → Option ((Int × Int × List (List Int) × Int × Int × Unit) ⊕ (Int × Int × List (List Int) × Unit) ⊕ Unit) := fun (a0, a1, a2, a3, a4, _) =>
 match (ilt a4 a3) with
 | true => match (fits ((dlen a2) + (dlen ([([a4] : List (Int))] : List (List Int))))) with
  | true => some (.inl (a0, a1, (dapp a2 ([([a4] : List (Int))] : List (List Int))), a3, (IntKind.wrap .i64 (a4 + 1)), ()))
  | false => none
 | false => some (.inr (.inl (a0, a1, a2, ())))
def tmake_d [Lk] : (Int × Unit) → Option ((Int × List (List Int) × Int × Unit)) := fun (a0, _) =>
 match tsized (a0, ()) with
 | none => none
 | some (y0, _) => match (!y0) with
  | true => some (0, ([] : List (List Int)), 1, ())
  | false => match iterL tmake_s0 many (0, a0, ([] : List (List Int)), a0, 0, ()) with
   | none => none
   | some r => match r with
    | .inl (o1, o2, o3, _) => some (o2, o3, 0, ())
    | .inr _ => none
def tmake [Lk] := fun v => Lk.f (tmake_d v)
theorem tmake_eq v : tmake v = tmake_d v := lock_eq _
-- slices.Index[[]int,int]
abbrev indexI_i : Items := [(.tmp 0, .dat (.slice (.int .i64))), (.tmp 1, .di)]
abbrev indexI_o : Items := [(.tmp 0, .di)]
abbrev indexI_r : List RS := [.one]
abbrev indexI_i0 : Items := [(.tmp 0, .dat (.slice (.int .i64))), (.tmp 1, .di), (.tmp 7, .di), (.tmp 8, .di)]
abbrev indexI_o0 : Outs := [(.ret, [(.tmp 4, .di)]), (.exit 0, [])]
def indexI_s0 [Lk] : (List Int × Int × Int × Int × Unit) → Option ((List Int × Int × Int × Int × Unit) ⊕ (Int × Unit) ⊕ (Unit) ⊕ Unit) := fun (a0, a1, a2, a3, _) =>
 match (ilt a3 a2) with
 | true => match idx a0 a3 with
  | none => none
  | some x0 => match (ieq a1 x0) with
   | true => some (.inr (.inl (a3, ())))
   | false => some (.inl (a0, a1, a2, (IntKind.wrap .i64 (a3 + 1)), ()))
 | false => some (.inr (.inr (.inl ())))
def indexI_d [Lk] : (List Int × Int × Unit) → Option ((Int × Unit)) := fun (a0, a1, _) =>
 match iterL indexI_s0 many (a0, a1, (dlen a0), 0, ()) with
 | none => none
 | some r => match r with
  | .inl (o0, _) => some (o0, ())
  | .inr r => match r with
   | .inl _ => some ((-1 : Int), ())
   | .inr _ => none
def indexI [Lk] := fun v => Lk.f (indexI_d v)
theorem indexI_eq v : indexI v = indexI_d v := lock_eq _
-- slices.Contains[[]int,int]
abbrev containsI_i : Items := [(.tmp 0, .dat (.slice (.int .i64))), (.tmp 1, .di)]
abbrev containsI_o : Items := [(.tmp 0, .dat .bool)]
abbrev containsI_r : List RS := [.one]
def containsI_d [Lk] : (List Int × Int × Unit) → Option ((Bool × Unit)) := fun (a0, a1, _) =>
 match indexI (a0, a1, ()) with
 | none => none
 | some (y0, _) => some ((ile 0 y0), ())
def containsI [Lk] := fun v => Lk.f (containsI_d v)
theorem containsI_eq v : containsI v = containsI_d v := lock_eq _
-- slices.Min[[]int,int]
abbrev minI_i : Items := [(.tmp 0, .dat (.slice (.int .i64)))]
abbrev minI_o : Items := [(.tmp 0, .di)]
abbrev minI_r : List RS := [.one]
abbrev minI_i0 : Items := [(.tmp 0, .dat (.slice (.int .i64))), (.tmp 3, .di), (.tmp 4, .di)]
abbrev minI_o0 : Outs := [(.exit 0, [(.tmp 3, .di)])]
def minI_s0 [Lk] : (List Int × Int × Int × Unit) → Option ((List Int × Int × Int × Unit) ⊕ (Int × Unit) ⊕ Unit) := fun (a0, a1, a2, _) =>
 match (ilt a2 (dlen a0)) with
 | true => match idx a0 a2 with
  | none => none
  | some x0 => some (.inl (a0, (imin a1 x0), (IntKind.wrap .i64 (a2 + 1)), ()))
 | false => some (.inr (.inl (a1, ())))
def minI_d [Lk] : (List Int × Unit) → Option ((Int × Unit)) := fun (a0, _) =>
 match (ilt (dlen a0) 1) with
 | true => none
 | false => match idx a0 0 with
  | none => none
  | some x0 => match iterL minI_s0 many (a0, x0, 1, ()) with
   | none => none
   | some r => match r with
    | .inl (o1, _) => some (o1, ())
    | .inr _ => none
def minI [Lk] := fun v => Lk.f (minI_d v)
theorem minI_eq v : minI v = minI_d v := lock_eq _
-- slices.Grow[[]int,int]
abbrev growI_i : Items := [(.tmp 0, .nil (.int .i64)), (.tmp 1, .di)]
abbrev growI_o : Items := [(.tmp 0, .own 3 (.int .i64))]
abbrev growI_r : List RS := [.one]
def growI_d [Lk] : (Int × Unit) → Option ((List Int × Unit)) := fun (a0, _) =>
 match (ilt a0 0) with
 | true => none
 | false => match (ilt 0 (IntKind.wrap .i64 (a0 - (IntKind.wrap .i64 (0 - 0))))) with
  | true => match subl ([] : List Unit) 0 0 with
   | none => none
   | some _u0 => match (fitsI (IntKind.wrap .i64 (a0 - (IntKind.wrap .i64 (0 - 0))))) with
    | true => match subl (drep (dnat (IntKind.wrap .i64 (a0 - (IntKind.wrap .i64 ((0 : Int) - (0 : Int)))))) (0 : Int)) (0 : Int) (0 : Int) with
     | none => none
     | some x1 => some ((dtake (dnat (dlen x1)) (drep (dnat (IntKind.wrap .i64 (a0 - (IntKind.wrap .i64 ((0 : Int) - (0 : Int)))))) (0 : Int))), ())
    | false => none
  | false => some (([] : List (Int)), ())
def growI [Lk] := fun v => Lk.f (growI_d v)
theorem growI_eq v : growI v = growI_d v := lock_eq _
-- slices.Concat[[]int,int]
abbrev concatI_i : Items := [(.tmp 0, .dat (.slice (.slice (.int .i64))))]
abbrev concatI_o : Items := [(.tmp 0, .own 3 (.int .i64))]
abbrev concatI_r : List RS := [.one]
abbrev concatI_i1 : Items := [(.tmp 6, .own 3 (.int .i64)), (.tmp 25, .dat (.slice (.slice (.int .i64)))), (.tmp 26, .di), (.tmp 27, .di)]
abbrev concatI_o1 : Outs := [(.exit 2, [(.tmp 6, .own 3 (.int .i64))])]
def concatI_s1 [Lk] : (List Int × List (List Int) × Int × Int × Unit) → Option ((List Int × List (List Int) × Int × Int × Unit) ⊕ (List Int × Unit) ⊕ Unit) := fun (a0, a1, a2, a3, _) =>
 match (ilt a3 a2) with
 | true => match idx a1 a3 with
  | none => none
  | some x0 => match (fits ((dlen a0) + (dlen x0))) with
   | true => some (.inl ((dapp a0 x0), a1, a2, (IntKind.wrap .i64 (a3 + 1)), ()))
   | false => none
 | false => some (.inr (.inl (a0, ())))
abbrev concatI_i0 : Items := [(.tmp 0, .dat (.slice (.slice (.int .i64)))), (.tmp 3, .di), (.tmp 9, .dat (.slice (.slice (.int .i64)))), (.tmp 10, .di), (.tmp 11, .di)]
abbrev concatI_o0 : Outs := [(.exit 0, [(.tmp 0, .dat (.slice (.slice (.int .i64)))), (.tmp 3, .di)])]
def concatI_s0 [Lk] : (List (List Int) × Int × List (List Int) × Int × Int × Unit) → Option ((List (List Int) × Int × List (List Int) × Int × Int × Unit) ⊕ (List (List Int) × Int × Unit) ⊕ Unit) := fun (a0, a1, a2, a3, a4, _) =>
 match (ilt a4 a3) with
 | true => match idx a2 a4 with
  | none => none
  | some x0 => match (ilt (IntKind.wrap .i64 (a1 + (dlen x0))) 0) with
   | true => none
   | false => some (.inl (a0, (IntKind.wrap .i64 (a1 + (dlen x0))), a2, a3, (IntKind.wrap .i64 (a4 + 1)), ()))
 | false => some (.inr (.inl (a0, a1, ())))
def concatI_d [Lk] : (List (List Int) × Unit) → Option ((List Int × Unit)) := fun (a0, _) =>
 match iterL concatI_s0 many (a0, 0, a0, (dlen a0), 0, ()) with
 | none => none
 | some r => match r with
  | .inl (o0, o1, _) => match growI (o1, ()) with
   | none => none
   | some (y2, _) => match iterL concatI_s1 many (y2, o0, (dlen o0), 0, ()) with
    | none => none
    | some r => match r with
     | .inl (o3, _) => some (o3, ())
     | .inr _ => none
  | .inr _ => none
def concatI [Lk] := fun v => Lk.f (concatI_d v)
theorem concatI_eq v : concatI v = concatI_d v := lock_eq _
-- slices.IndexFunc[[]int,int]
abbrev idxFuncI_odd_i : Items := [(.tmp 0, .dat (.slice (.int .i64))), (.tmp 1, .clo 149 [])]
abbrev idxFuncI_odd_o : Items := [(.tmp 0, .di)]
abbrev idxFuncI_odd_r : List RS := [.one]
abbrev idxFuncI_odd_i0 : Items := [(.tmp 0, .dat (.slice (.int .i64))), (.tmp 1, .clo 149 []), (.tmp 7, .di), (.tmp 8, .di)]
abbrev idxFuncI_odd_o0 : Outs := [(.ret, [(.tmp 4, .di)]), (.exit 0, [])]
def idxFuncI_odd_s0 [Lk] : (List Int × Int × Int × Unit) → Option ((List Int × Int × Int × Unit) ⊕ (Int × Unit) ⊕ (Unit) ⊕ Unit) := fun (a0, a1, a2, _) =>
 match (ilt a2 a1) with
 | true => match idx a0 a2 with
  | none => none
  | some x0 => match (ilt x0 0) with
   | true => some (.inr (.inl (a2, ())))
   | false => match (ilt 10000 x0) with
    | true => some (.inr (.inl (a2, ())))
    | false => some (.inl (a0, a1, (IntKind.wrap .i64 (a2 + 1)), ()))
 | false => some (.inr (.inr (.inl ())))
def idxFuncI_odd_d [Lk] : (List Int × Unit) → Option ((Int × Unit)) := fun (a0, _) =>
 match iterL idxFuncI_odd_s0 many (a0, (dlen a0), 0, ()) with
 | none => none
 | some r => match r with
  | .inl (o0, _) => some (o0, ())
  | .inr r => match r with
   | .inl _ => some ((-1 : Int), ())
   | .inr _ => none
def idxFuncI_odd [Lk] := fun v => Lk.f (idxFuncI_odd_d v)
theorem idxFuncI_odd_eq v : idxFuncI_odd v = idxFuncI_odd_d v := lock_eq _
-- slices.ContainsFunc[[]int,int]
abbrev contFuncI_odd_i : Items := [(.tmp 0, .dat (.slice (.int .i64))), (.tmp 1, .clo 149 [])]
abbrev contFuncI_odd_o : Items := [(.tmp 0, .dat .bool)]
abbrev contFuncI_odd_r : List RS := [.one]
def contFuncI_odd_d [Lk] : (List Int × Unit) → Option ((Bool × Unit)) := fun (a0, _) =>
 match idxFuncI_odd (a0, ()) with
 | none => none
 | some (y0, _) => some ((ile 0 y0), ())
def contFuncI_odd [Lk] := fun v => Lk.f (contFuncI_odd_d v)
theorem contFuncI_odd_eq v : contFuncI_odd v = contFuncI_odd_d v := lock_eq _
-- archipelago/ring.once[int]
abbrev once_i : Items := [(.tmp 0, .dat (.slice (.int .i64)))]
abbrev once_o : Items := [(.tmp 0, .dat .bool)]
abbrev once_r : List RS := [.one]
abbrev once_i0 : Items := [(.tmp 0, .dat (.slice (.int .i64))), (.tmp 3, .map (.int .i64) (.int .i64)), (.tmp 7, .dat (.slice (.int .i64))), (.tmp 8, .di), (.tmp 9, .di)]
abbrev once_o0 : Outs := [(.exit 0, [(.tmp 0, .dat (.slice (.int .i64))), (.tmp 3, .map (.int .i64) (.int .i64))])]
def once_s0 [Lk] : (List Int × List (Int × Int) × List Int × Int × Int × Unit) → Option ((List Int × List (Int × Int) × List Int × Int × Int × Unit) ⊕ (List Int × List (Int × Int) × Unit) ⊕ Unit) := fun (a0, a1, a2, a3, a4, _) =>
 match (ilt a4 a3) with
 | true => match idx a2 a4 with
  | none => none
  | some x0 => some (.inl (a0, (storeM a1 x0 (IntKind.wrap .i64 (((lookupM a1 x0).getD 0) + 1))), a2, a3, (IntKind.wrap .i64 (a4 + 1)), ()))
 | false => some (.inr (.inl (a0, a1, ())))
def once_d [Lk] : (List Int × Unit) → Option ((Bool × Unit)) := fun (a0, _) =>
 match iterL once_s0 many (a0, ([] : List (Int × Int)), a0, (dlen a0), 0, ()) with
 | none => none
 | some r => match r with
  | .inl (o0, o1, _) => some ((ieq (dlen o1) (dlen o0)), ())
  | .inr _ => none
def once [Lk] := fun v => Lk.f (once_d v)
theorem once_eq v : once v = once_d v := lock_eq _
-- archipelago/ring.Right
abbrev rright_i : Items := [(.tmp 0, .dat (.slice (.int .i64)))]
abbrev rright_o : Items := [(.tmp 0, .dat .bool)]
abbrev rright_r : List RS := [.one]
def rright_d [Lk] : (List Int × Unit) → Option ((Bool × Unit)) := fun (a0, _) =>
 match (ilt 1000 (dlen a0)) with
 | true => some (false, ())
 | false => match contFuncI_odd (a0, ()) with
  | none => none
  | some (y0, _) => match (!y0) with
   | true => match once (a0, ()) with
    | none => none
    | some (y1, _) => some (y1, ())
   | false => some (false, ())
def rright [Lk] := fun v => Lk.f (rright_d v)
theorem rright_eq v : rright v = rright_d v := lock_eq _
-- archipelago/ring.turned
abbrev turned_i : Items := [(.tmp 0, .dat (.slice (.int .i64))), (.tmp 1, .di)]
abbrev turned_o : Items := [(.tmp 0, .own 3 (.int .i64))]
abbrev turned_r : List RS := [.one]
def turned_d [Lk] : (List Int × Int × Unit) → Option ((List Int × Unit)) := fun (a0, a1, _) =>
 match subl a0 a1 (dlen a0) with
 | none => none
 | some x0 => match subl a0 0 a1 with
  | none => none
  | some x1 => match concatI (([x0, x1] : List (List Int)), ()) with
   | none => none
   | some (y2, _) => some (y2, ())
def turned [Lk] := fun v => Lk.f (turned_d v)
theorem turned_eq v : turned v = turned_d v := lock_eq _
-- archipelago/ring.places
abbrev places_i : Items := [(.tmp 0, .dat (.slice (.int .i64))), (.tmp 1, .dat (.slice (.int .i64)))]
abbrev places_o : Items := [(.tmp 0, .own 3 (.int .i64)), (.tmp 1, .dat .bool)]
abbrev places_r : List RS := [.one, .one]
abbrev places_i0 : Items := [(.tmp 0, .dat (.slice (.int .i64))), (.tmp 6, .own 3 (.int .i64)), (.tmp 12, .dat (.slice (.int .i64))), (.tmp 13, .di), (.tmp 14, .di)]
abbrev places_o0 : Outs := [(.exit 0, [(.tmp 6, .own 3 (.int .i64))])]
def places_s0 [Lk] : (List Int × List Int × List Int × Int × Int × Unit) → Option ((List Int × List Int × List Int × Int × Int × Unit) ⊕ (List Int × Unit) ⊕ Unit) := fun (a0, a1, a2, a3, a4, _) =>
 match (ilt a4 a3) with
 | true => match idx a2 a4 with
  | none => none
  | some x0 => match indexI (a0, x0, ()) with
   | none => none
   | some (y1, _) => match (fits ((dlen a1) + (dlen ([y1] : List (Int))))) with
    | true => some (.inl (a0, (dapp a1 ([y1] : List (Int))), a2, a3, (IntKind.wrap .i64 (a4 + 1)), ()))
    | false => none
 | false => some (.inr (.inl (a1, ())))
def places_d [Lk] : (List Int × List Int × Unit) → Option ((List Int × Bool × Unit)) := fun (a0, a1, _) =>
 match rright (a0, ()) with
 | none => none
 | some (y0, _) => match (!y0) with
  | true => some (([] : List (Int)), false, ())
  | false => match iterL places_s0 many (a0, ([] : List (Int)), a1, (dlen a1), 0, ()) with
   | none => none
   | some r => match r with
    | .inl (o1, _) => match containsI (o1, (-1 : Int), ()) with
     | none => none
     | some (y2, _) => some (o1, (!y2), ())
    | .inr _ => none
def places [Lk] := fun v => Lk.f (places_d v)
theorem places_eq v : places v = places_d v := lock_eq _
-- archipelago/ring.From
abbrev rfrom_i : Items := [(.tmp 0, .dat (.slice (.int .i64))), (.tmp 1, .di)]
abbrev rfrom_o : Items := [(.tmp 0, .own 3 (.int .i64)), (.tmp 1, .dat .bool)]
abbrev rfrom_r : List RS := [.one, .one]
def rfrom_d [Lk] : (List Int × Int × Unit) → Option ((List Int × Bool × Unit)) := fun (a0, a1, _) =>
 match places (a0, ([a1] : List (Int)), ()) with
 | none => none
 | some (y0, y1, _) => match (!y1) with
  | true => some (([] : List (Int)), false, ())
  | false => match idx y0 0 with
   | none => none
   | some x2 => match turned (a0, (dget y0 0 0), ()) with
    | none => none
    | some (y3, _) => some (y3, true, ())
def rfrom [Lk] := fun v => Lk.f (rfrom_d v)
theorem rfrom_eq v : rfrom v = rfrom_d v := lock_eq _
-- archipelago/ring.Plain
abbrev rplain_i : Items := [(.tmp 0, .dat (.slice (.int .i64)))]
abbrev rplain_o : Items := [(.tmp 0, .own 3 (.int .i64))]
abbrev rplain_r : List RS := [.one]
def rplain_d [Lk] : (List Int × Unit) → Option ((List Int × Unit)) := fun (a0, _) =>
 match rright (a0, ()) with
 | none => none
 | some (y0, _) => match (!y0) with
  | true => some (([] : List (Int)), ())
  | false => match (ieq (dlen a0) 0) with
   | true => some (([] : List (Int)), ())
   | false => match minI (a0, ()) with
    | none => none
    | some (y1, _) => match indexI (a0, y1, ()) with
     | none => none
     | some (y2, _) => match turned (a0, y2, ()) with
      | none => none
      | some (y3, _) => some (y3, ())
def rplain [Lk] := fun v => Lk.f (rplain_d v)
theorem rplain_eq v : rplain v = rplain_d v := lock_eq _
-- slices.IndexFunc[[][]int,[]int]
abbrev idxFuncL_place_i : Items := [(.tmp 0, .dat (.slice (.slice (.int .i64)))), (.cap 1 0, .box 1), (.cell 0 0, .di), (.tmp 1, .clo 160 [(0, 0)])]
abbrev idxFuncL_place_o : Items := [(.obj 0, .box 1), (.cell 0 0, .di), (.tmp 0, .di)]
abbrev idxFuncL_place_r : List RS := [.one]
abbrev idxFuncL_place_i0 : Items := [(.obj 0, .box 1), (.cell 0 0, .di), (.tmp 0, .dat (.slice (.slice (.int .i64)))), (.tmp 1, .clo 160 [(0, 0)]), (.tmp 7, .di), (.tmp 8, .di)]
abbrev idxFuncL_place_o0 : Outs := [(.ret, [(.obj 0, .box 1), (.cell 0 0, .di), (.tmp 4, .di)]), (.exit 0, [(.obj 0, .box 1), (.cell 0 0, .di)])]
def idxFuncL_place_s0 [Lk] : (Int × List (List Int) × Int × Int × Unit) → Option ((Int × List (List Int) × Int × Int × Unit) ⊕ (Int × Int × Unit) ⊕ (Int × Unit) ⊕ Unit) := fun (a0, a1, a2, a3, _) =>
 match (ilt a3 a2) with
 | true => match idx a1 a3 with
  | none => none
  | some x0 => match containsI (x0, a0, ()) with
   | none => none
   | some (y1, _) => match y1 with
    | true => some (.inr (.inl (a0, a3, ())))
    | false => some (.inl (a0, a1, a2, (IntKind.wrap .i64 (a3 + 1)), ()))
 | false => some (.inr (.inr (.inl (a0, ()))))
def idxFuncL_place_d [Lk] : (List (List Int) × Int × Unit) → Option ((Int × Int × Unit)) := fun (a0, a1, _) =>
 match iterL idxFuncL_place_s0 many (a1, a0, (dlen a0), 0, ()) with
 | none => none
 | some r => match r with
  | .inl (o0, o1, _) => some (o0, o1, ())
  | .inr r => match r with
   | .inl (o2, _) => some (o2, (-1 : Int), ())
   | .inr _ => none
def idxFuncL_place [Lk] := fun v => Lk.f (idxFuncL_place_d v)
theorem idxFuncL_place_eq v : idxFuncL_place v = idxFuncL_place_d v := lock_eq _
-- archipelago/tour.place
abbrev tplace_i : Items := [(.tmp 0, .dat (.prod (.int .i64) (.prod (.slice (.slice (.int .i64))) .unit))), (.tmp 1, .di)]
abbrev tplace_o : Items := [(.tmp 0, .di)]
abbrev tplace_r : List RS := [.one]
def tplace_d [Lk] : ((Int × (List (List Int)) × Unit) × Int × Unit) → Option ((Int × Unit)) := fun (a0, a1, _) =>
 match idxFuncL_place (a0.2.1, a1, ()) with
 | none => none
 | some (y0, y1, _) => some (y1, ())
def tplace [Lk] := fun v => Lk.f (tplace_d v)
theorem tplace_eq v : tplace v = tplace_d v := lock_eq _
-- archipelago/tour.goes
abbrev goes_i : Items := [(.tmp 0, .di), (.tmp 1, .dat (.slice (.int .i64)))]
abbrev goes_o : Items := [(.tmp 0, .dat .bool)]
abbrev goes_r : List RS := [.one]
abbrev goes_i0 : Items := [(.tmp 0, .di), (.tmp 5, .box 3), (.cell 0 0, .own 3 (.int .i64)), (.cell 0 1, .map (.int .i64) (.int .i64)), (.cell 0 2, .map (.int .i64) (.int .i64)), (.tmp 30, .dat (.slice (.int .i64))), (.tmp 31, .di), (.tmp 32, .di)]
abbrev goes_o0 : Outs := [(.ret, [(.tmp 4, .dat .bool)]), (.exit 0, [(.tmp 5, .box 3), (.cell 0 0, .own 3 (.int .i64)), (.cell 0 1, .map (.int .i64) (.int .i64)), (.cell 0 2, .map (.int .i64) (.int .i64))])]
def goes_s0 [Lk] : (Int × List Int × List (Int × Int) × List (Int × Int) × List Int × Int × Int × Unit) → Option ((Int × List Int × List (Int × Int) × List (Int × Int) × List Int × Int × Int × Unit) ⊕ (Bool × Unit) ⊕ (List Int × List (Int × Int) × List (Int × Int) × Unit) ⊕ Unit) := fun (a0, a1, a2, a3, a4, a5, a6, _) =>
 match (ilt a6 a5) with
 | true => match idx a4 a6 with
  | none => none
  | some x0 => match ttoken (a0, x0, ()) with
   | none => none
   | some (y1, y2, y3, y4, _) => match (!y4) with
    | true => some (.inr (.inl (false, ())))
    | false => match y3 with
     | true => match idx a1 (IntKind.wrap .i64 ((dlen a1) - 1)) with
      | none => none
      | some x5 => match (!(ieq (dget a1 (dnat (IntKind.wrap .i64 ((dlen a1) - 1))) 0) y1)) with
       | true => some (.inr (.inl (false, ())))
       | false => match (ilt 0 (IntKind.wrap .i64 ((dlen a1) - 1))) with
        | true => match idx a1 (IntKind.wrap .i64 ((IntKind.wrap .i64 ((dlen a1) - 1)) - 1)) with
         | none => none
         | some x6 => match (ieq (dget a1 (dnat (IntKind.wrap .i64 ((IntKind.wrap .i64 ((dlen a1) - 1)) - 1))) 0) y2) with
          | true => match subl a1 0 (IntKind.wrap .i64 ((dlen a1) - 1)) with
           | none => none
           | some x7 => match (!y3) with
            | true => match idx (dcut 0 (dnat (dlen x7)) a1) (IntKind.wrap .i64 ((((dnat (dlen x7)) : Nat) : Int) - 1)) with
             | none => none
             | some x8 => match (!(ieq (dget a1 (0 + (dnat (IntKind.wrap .i64 ((((dnat (dlen x7)) : Nat) : Int) - 1)))) 0) y1)) with
              | true => some (.inr (.inl (false, ())))
              | false => match (!y3) with
               | true => some (.inl (a0, (dtake (dnat (dlen x7)) a1), a2, (storeM a3 y1 (IntKind.wrap .i64 (((lookupM a3 y1).getD 0) + 1))), a4, a5, (IntKind.wrap .i64 (a6 + 1)), ()))
               | false => some (.inl (a0, (dtake (dnat (dlen x7)) a1), a2, a3, a4, a5, (IntKind.wrap .i64 (a6 + 1)), ()))
            | false => match (!y3) with
             | true => some (.inl (a0, (dtake (dnat (dlen x7)) a1), a2, (storeM a3 y1 (IntKind.wrap .i64 (((lookupM a3 y1).getD 0) + 1))), a4, a5, (IntKind.wrap .i64 (a6 + 1)), ()))
             | false => some (.inl (a0, (dtake (dnat (dlen x7)) a1), a2, a3, a4, a5, (IntKind.wrap .i64 (a6 + 1)), ()))
          | false => match (ilt 0 ((lookupM a2 y2).getD 0)) with
           | true => some (.inr (.inl (false, ())))
           | false => match (fits ((dlen a1) + (dlen ([y2] : List (Int))))) with
            | true => match (!y3) with
             | true => match idx (dapp a1 ([y2] : List (Int))) (IntKind.wrap .i64 ((dlen (dapp a1 ([y2] : List (Int)))) - 1)) with
              | none => none
              | some x9 => match (!(ieq (dget (dapp a1 ([y2] : List (Int))) (dnat (IntKind.wrap .i64 ((dlen (dapp a1 ([y2] : List (Int)))) - 1))) 0) y1)) with
               | true => some (.inr (.inl (false, ())))
               | false => match (!y3) with
                | true => some (.inl (a0, (dapp a1 ([y2] : List (Int))), (storeM a2 y2 (IntKind.wrap .i64 (((lookupM a2 y2).getD 0) + 1))), (storeM a3 y1 (IntKind.wrap .i64 (((lookupM a3 y1).getD 0) + 1))), a4, a5, (IntKind.wrap .i64 (a6 + 1)), ()))
                | false => some (.inl (a0, (dapp a1 ([y2] : List (Int))), (storeM a2 y2 (IntKind.wrap .i64 (((lookupM a2 y2).getD 0) + 1))), a3, a4, a5, (IntKind.wrap .i64 (a6 + 1)), ()))
             | false => match (!y3) with
              | true => some (.inl (a0, (dapp a1 ([y2] : List (Int))), (storeM a2 y2 (IntKind.wrap .i64 (((lookupM a2 y2).getD 0) + 1))), (storeM a3 y1 (IntKind.wrap .i64 (((lookupM a3 y1).getD 0) + 1))), a4, a5, (IntKind.wrap .i64 (a6 + 1)), ()))
              | false => some (.inl (a0, (dapp a1 ([y2] : List (Int))), (storeM a2 y2 (IntKind.wrap .i64 (((lookupM a2 y2).getD 0) + 1))), a3, a4, a5, (IntKind.wrap .i64 (a6 + 1)), ()))
            | false => none
        | false => match (ilt 0 ((lookupM a2 y2).getD 0)) with
         | true => some (.inr (.inl (false, ())))
         | false => match (fits ((dlen a1) + (dlen ([y2] : List (Int))))) with
          | true => match (!y3) with
           | true => match idx (dapp a1 ([y2] : List (Int))) (IntKind.wrap .i64 ((dlen (dapp a1 ([y2] : List (Int)))) - 1)) with
            | none => none
            | some x10 => match (!(ieq (dget (dapp a1 ([y2] : List (Int))) (dnat (IntKind.wrap .i64 ((dlen (dapp a1 ([y2] : List (Int)))) - 1))) 0) y1)) with
             | true => some (.inr (.inl (false, ())))
             | false => match (!y3) with
              | true => some (.inl (a0, (dapp a1 ([y2] : List (Int))), (storeM a2 y2 (IntKind.wrap .i64 (((lookupM a2 y2).getD 0) + 1))), (storeM a3 y1 (IntKind.wrap .i64 (((lookupM a3 y1).getD 0) + 1))), a4, a5, (IntKind.wrap .i64 (a6 + 1)), ()))
              | false => some (.inl (a0, (dapp a1 ([y2] : List (Int))), (storeM a2 y2 (IntKind.wrap .i64 (((lookupM a2 y2).getD 0) + 1))), a3, a4, a5, (IntKind.wrap .i64 (a6 + 1)), ()))
           | false => match (!y3) with
            | true => some (.inl (a0, (dapp a1 ([y2] : List (Int))), (storeM a2 y2 (IntKind.wrap .i64 (((lookupM a2 y2).getD 0) + 1))), (storeM a3 y1 (IntKind.wrap .i64 (((lookupM a3 y1).getD 0) + 1))), a4, a5, (IntKind.wrap .i64 (a6 + 1)), ()))
            | false => some (.inl (a0, (dapp a1 ([y2] : List (Int))), (storeM a2 y2 (IntKind.wrap .i64 (((lookupM a2 y2).getD 0) + 1))), a3, a4, a5, (IntKind.wrap .i64 (a6 + 1)), ()))
          | false => none
     | false => match (!y3) with
      | true => match idx a1 (IntKind.wrap .i64 ((dlen a1) - 1)) with
       | none => none
       | some x11 => match (!(ieq (dget a1 (dnat (IntKind.wrap .i64 ((dlen a1) - 1))) 0) y1)) with
        | true => some (.inr (.inl (false, ())))
        | false => match (!y3) with
         | true => some (.inl (a0, a1, a2, (storeM a3 y1 (IntKind.wrap .i64 (((lookupM a3 y1).getD 0) + 1))), a4, a5, (IntKind.wrap .i64 (a6 + 1)), ()))
         | false => some (.inl (a0, a1, a2, a3, a4, a5, (IntKind.wrap .i64 (a6 + 1)), ()))
      | false => match (!y3) with
       | true => some (.inl (a0, a1, a2, (storeM a3 y1 (IntKind.wrap .i64 (((lookupM a3 y1).getD 0) + 1))), a4, a5, (IntKind.wrap .i64 (a6 + 1)), ()))
       | false => some (.inl (a0, a1, a2, a3, a4, a5, (IntKind.wrap .i64 (a6 + 1)), ()))
 | false => some (.inr (.inr (.inl (a1, a2, a3, ()))))
def goes_d [Lk] : (Int × List Int × Unit) → Option ((Bool × Unit)) := fun (a0, a1, _) =>
 match idx a1 0 with
 | none => none
 | some x0 => match tin (a0, x0, ()) with
  | none => none
  | some (y1, _) => match (!y1) with
   | true => some (false, ())
   | false => match idx a1 0 with
    | none => none
    | some x2 => match idx a1 0 with
     | none => none
     | some x3 => match iterL goes_s0 many (a0, ([x2] : List (Int)), (storeM ([] : List (Int × Int)) x3 1), ([] : List (Int × Int)), a1, (dlen a1), 0, ()) with
      | none => none
      | some r => match r with
       | .inl (o4, _) => some (o4, ())
       | .inr r => match r with
        | .inl (o5, o6, o7, _) => match (ieq (dlen o5) 1) with
         | true => some ((ieq (dlen o7) (dlen o6)), ())
         | false => some (false, ())
        | .inr _ => none
def goes [Lk] := fun v => Lk.f (goes_d v)
theorem goes_eq v : goes v = goes_d v := lock_eq _
-- archipelago/tour.Right
abbrev tright_i : Items := [(.tmp 0, .dat (.prod (.int .i64) (.prod (.slice (.slice (.int .i64))) .unit)))]
abbrev tright_o : Items := [(.tmp 0, .dat .bool)]
abbrev tright_r : List RS := [.one]
abbrev tright_i2 : Items := [(.tmp 3, .map (.int .i64) (.int .i64)), (.tmp 78, .di), (.tmp 79, .di)]
abbrev tright_o2 : Outs := [(.ret, [(.tmp 2, .dat .bool)]), (.exit 4, [])]
def tright_s2 [Lk] : (List (Int × Int) × Int × Int × Unit) → Option ((List (Int × Int) × Int × Int × Unit) ⊕ (Bool × Unit) ⊕ (Unit) ⊕ Unit) := fun (a0, a1, a2, _) =>
 match (ilt a2 a1) with
 | true => match (ieq ((lookupM a0 a2).getD 0) 0) with
  | true => some (.inr (.inl (false, ())))
  | false => some (.inl (a0, a1, (IntKind.wrap .i64 (a2 + 1)), ()))
 | false => some (.inr (.inr (.inl ())))
abbrev tright_i1 : Items := [(.tmp 1, .box 2), (.cell 0 0, .di), (.cell 0 1, .dat (.slice (.slice (.int .i64)))), (.tmp 3, .map (.int .i64) (.int .i64)), (.tmp 4, .di), (.tmp 16, .dat (.slice (.slice (.int .i64)))), (.tmp 17, .di), (.tmp 18, .di), (.tmp 26, .dat (.slice (.int .i64))), (.tmp 28, .di), (.tmp 29, .di), (.tmp 30, .dat .bool), (.tmp 33, .dat (.slice (.int .i64))), (.tmp 34, .dat .bool), (.tmp 35, .dat .bool), (.tmp 38, .dat (.slice (.int .i64))), (.tmp 39, .di), (.tmp 40, .dat (.slice (.int .i64))), (.tmp 42, .di), (.tmp 43, .dat .bool), (.tmp 46, .ptr' 0 0), (.tmp 47, .di), (.tmp 48, .dat (.slice (.int .i64))), (.tmp 49, .dat .bool), (.tmp 50, .dat .bool), (.tmp 55, .dat (.slice (.int .i64))), (.tmp 56, .di), (.tmp 57, .di)]
abbrev tright_o1 : Outs := [(.ret, [(.tmp 2, .dat .bool)]), (.exit 2, [(.tmp 1, .box 2), (.cell 0 0, .di), (.cell 0 1, .dat (.slice (.slice (.int .i64)))), (.tmp 3, .map (.int .i64) (.int .i64)), (.tmp 4, .di), (.tmp 16, .dat (.slice (.slice (.int .i64)))), (.tmp 17, .di), (.tmp 18, .di), (.tmp 26, .dat (.slice (.int .i64))), (.tmp 28, .di), (.tmp 29, .di), (.tmp 30, .dat .bool), (.tmp 33, .dat (.slice (.int .i64))), (.tmp 34, .dat .bool), (.tmp 35, .dat .bool), (.tmp 38, .dat (.slice (.int .i64))), (.tmp 39, .di), (.tmp 40, .dat (.slice (.int .i64))), (.tmp 42, .di), (.tmp 43, .dat .bool), (.tmp 46, .ptr' 0 0), (.tmp 47, .di), (.tmp 48, .dat (.slice (.int .i64))), (.tmp 49, .dat .bool), (.tmp 50, .dat .bool)])]
def tright_s1 [Lk] : (Int × List (List Int) × List (Int × Int) × Int × List (List Int) × Int × Int × List Int × Int × Int × Bool × List Int × Bool × Bool × List Int × Int × List Int × Int × Bool × Int × List Int × Bool × Bool × List Int × Int × Int × Unit) → Option ((Int × List (List Int) × List (Int × Int) × Int × List (List Int) × Int × Int × List Int × Int × Int × Bool × List Int × Bool × Bool × List Int × Int × List Int × Int × Bool × Int × List Int × Bool × Bool × List Int × Int × Int × Unit) ⊕ (Bool × Unit) ⊕ (Int × List (List Int) × List (Int × Int) × Int × List (List Int) × Int × Int × List Int × Int × Int × Bool × List Int × Bool × Bool × List Int × Int × List Int × Int × Bool × Int × List Int × Bool × Bool × Unit) ⊕ Unit) := fun (a0, a1, a2, a3, a4, a5, a6, a7, a8, a9, a10, a11, a12, a13, a14, a15, a16, a17, a18, a19, a20, a21, a22, a23, a24, a25, _) =>
 match (ilt a25 a24) with
 | true => match idx a23 a25 with
  | none => none
  | some x0 => match (ilt x0 a0) with
   | true => match (ilt 0 ((lookupM a2 x0).getD 0)) with
    | true => some (.inr (.inl (false, ())))
    | false => some (.inl (a0, a1, (storeM a2 x0 (IntKind.wrap .i64 (((lookupM a2 x0).getD 0) + 1))), a3, a4, a5, a6, a7, a8, a9, a10, a11, a12, a13, a14, a15, a16, a17, a18, a19, a20, a21, a22, a23, a24, (IntKind.wrap .i64 (a25 + 1)), ()))
   | false => some (.inl (a0, a1, (storeM a2 x0 (IntKind.wrap .i64 (((lookupM a2 x0).getD 0) + 1))), a3, a4, a5, a6, a7, a8, a9, a10, a11, a12, a13, a14, a15, a16, a17, a18, a19, a20, a21, a22, a23, a24, (IntKind.wrap .i64 (a25 + 1)), ()))
 | false => some (.inr (.inr (.inl (a0, a1, a2, a3, a4, a5, a6, a7, a8, a9, a10, a11, a12, a13, a14, a15, a16, a17, a18, a19, a20, a21, a22, ()))))
abbrev tright_i0 : Items := [(.tmp 1, .box 2), (.cell 0 0, .di), (.cell 0 1, .dat (.slice (.slice (.int .i64)))), (.tmp 3, .map (.int .i64) (.int .i64)), (.tmp 4, .di), (.tmp 16, .dat (.slice (.slice (.int .i64)))), (.tmp 17, .di), (.tmp 18, .di)]
abbrev tright_o0 : Outs := [(.ret, [(.tmp 2, .dat .bool)]), (.exit 0, [(.tmp 1, .box 2), (.cell 0 0, .di), (.cell 0 1, .dat (.slice (.slice (.int .i64)))), (.tmp 3, .map (.int .i64) (.int .i64))])]
def tright_s0 [Lk] : (Int × List (List Int) × List (Int × Int) × Int × List (List Int) × Int × Int × Unit) → Option ((Int × List (List Int) × List (Int × Int) × Int × List (List Int) × Int × Int × Unit) ⊕ (Bool × Unit) ⊕ (Int × List (List Int) × List (Int × Int) × Unit) ⊕ Unit) := fun (a0, a1, a2, a3, a4, a5, a6, _) =>
 match (ilt a6 a5) with
 | true => match idx a4 a6 with
  | none => none
  | some x0 => match (ieq (dlen x0) 0) with
   | true => some (.inr (.inl (false, ())))
   | false => match idx x0 0 with
    | none => none
    | some x1 => match (ile x1 a3) with
     | true => some (.inr (.inl (false, ())))
     | false => match rright (x0, ()) with
      | none => none
      | some (y2, _) => match (!y2) with
       | true => some (.inr (.inl (false, ())))
       | false => match minI (x0, ()) with
        | none => none
        | some (y3, _) => match idx x0 0 with
         | none => none
         | some x4 => match (!(ieq y3 x4)) with
          | true => some (.inr (.inl (false, ())))
          | false => match goes (a0, x0, ()) with
           | none => none
           | some (y5, _) => match (!y5) with
            | true => some (.inr (.inl (false, ())))
            | false => match idx x0 0 with
             | none => none
             | some x6 => match iterL tright_s1 many (a0, a1, a2, x6, a4, a5, a6, x0, x1, a3, (ile x1 a3), x0, y2, (!y2), x0, y3, x0, x4, (!(ieq y3 x4)), a0, x0, y5, (!y5), x0, (dlen x0), 0, ()) with
              | none => none
              | some r => match r with
               | .inl (o7, _) => some (.inr (.inl (o7, ())))
               | .inr r => match r with
                | .inl (o8, o9, o10, o11, o12, o13, o14, o15, o16, o17, o18, o19, o20, o21, o22, o23, o24, o25, o26, o27, o28, o29, o30, _) => some (.inl (o8, o9, o10, o11, o12, o13, (IntKind.wrap .i64 (o14 + 1)), ()))
                | .inr _ => none
 | false => some (.inr (.inr (.inl (a0, a1, a2, ()))))
def tright_d [Lk] : ((Int × (List (List Int)) × Unit) × Unit) → Option ((Bool × Unit)) := fun (a0, _) =>
 match tsized (a0.1, ()) with
 | none => none
 | some (y0, _) => match (!y0) with
  | true => some (false, ())
  | false => match iterL tright_s0 many (a0.1, a0.2.1, ([] : List (Int × Int)), (-1 : Int), a0.2.1, (dlen a0.2.1), 0, ()) with
   | none => none
   | some r => match r with
    | .inl (o1, _) => some (o1, ())
    | .inr r => match r with
     | .inl (o2, o3, o4, _) => match iterL tright_s2 many (o4, o2, 0, ()) with
      | none => none
      | some r => match r with
       | .inl (o5, _) => some (o5, ())
       | .inr r => match r with
        | .inl _ => some (true, ())
        | .inr _ => none
     | .inr _ => none
def tright [Lk] := fun v => Lk.f (tright_d v)
theorem tright_eq v : tright v = tright_d v := lock_eq _
-- archipelago/tour.asked
abbrev asked_i : Items := [(.tmp 0, .dat (.prod (.int .i64) (.prod (.slice (.slice (.int .i64))) .unit))), (.tmp 1, .di), (.tmp 2, .di)]
abbrev asked_o : Items := [(.tmp 0, .di)]
abbrev asked_r : List RS := [.one]
def asked_d [Lk] : ((Int × (List (List Int)) × Unit) × Int × Int × Unit) → Option ((Int × Unit)) := fun (a0, a1, a2, _) =>
 match tright ((a0.1, (a0.2.1, ())), ()) with
 | none => none
 | some (y0, _) => match (!y0) with
  | true => some (1, ())
  | false => match tin (a0.1, a1, ()) with
   | none => none
   | some (y1, _) => match (!y1) with
    | true => some (10, ())
    | false => match tin (a0.1, a2, ()) with
     | none => none
     | some (y2, _) => match (!y2) with
      | true => some (10, ())
      | false => some (0, ())
def asked [Lk] := fun v => Lk.f (asked_d v)
theorem asked_eq v : asked v = asked_d v := lock_eq _
-- cmp.isNaN[int]
abbrev nanI_i : Items := [(.tmp 0, .di)]
abbrev nanI_o : Items := [(.tmp 0, .dat .bool)]
abbrev nanI_r : List RS := [.one]
def nanI_d [Lk] : (Int × Unit) → Option ((Bool × Unit)) := fun (a0, _) =>
 some ((!(ieq a0 a0)), ())
def nanI [Lk] := fun v => Lk.f (nanI_d v)
theorem nanI_eq v : nanI v = nanI_d v := lock_eq _
-- cmp.Compare[int]
abbrev compareI_i : Items := [(.tmp 0, .di), (.tmp 1, .di)]
abbrev compareI_o : Items := [(.tmp 0, .di)]
abbrev compareI_r : List RS := [.one]
def compareI_d [Lk] : (Int × Int × Unit) → Option ((Int × Unit)) := fun (a0, a1, _) =>
 match nanI (a0, ()) with
 | none => none
 | some (y0, _) => match nanI (a1, ()) with
  | none => none
  | some (y1, _) => match y0 with
   | true => match y1 with
    | true => some (0, ())
    | false => some ((-1 : Int), ())
   | false => match y1 with
    | true => some (1, ())
    | false => match (ilt a0 a1) with
     | true => some ((-1 : Int), ())
     | false => match (ilt a1 a0) with
      | true => some (1, ())
      | false => some (0, ())
def compareI [Lk] := fun v => Lk.f (compareI_d v)
theorem compareI_eq v : compareI v = compareI_d v := lock_eq _
-- archipelago/tour.with$1
abbrev with1_i : Items := [(.tmp 0, .dat (.slice (.int .i64))), (.tmp 1, .dat (.slice (.int .i64)))]
abbrev with1_o : Items := [(.tmp 0, .di)]
abbrev with1_r : List RS := [.one]
def with1_d [Lk] : (List Int × List Int × Unit) → Option ((Int × Unit)) := fun (a0, a1, _) =>
 match idx a0 0 with
 | none => none
 | some x0 => match idx a1 0 with
  | none => none
  | some x1 => match compareI (x0, x1, ()) with
   | none => none
   | some (y2, _) => some (y2, ())
def with1 [Lk] := fun v => Lk.f (with1_d v)
theorem with1_eq v : with1 v = with1_d v := lock_eq _
-- math/bits.Len64
def lenTab : List Int := [0, 1, 2, 2, 3, 3, 3, 3, 4, 4, 4, 4, 4, 4, 4, 4, 5, 5, 5, 5, 5, 5, 5, 5, 5, 5, 5, 5, 5, 5, 5, 5, 6, 6, 6, 6, 6, 6, 6, 6, 6, 6, 6, 6, 6, 6, 6, 6, 6, 6, 6, 6, 6, 6, 6, 6, 6, 6, 6, 6, 6, 6, 6, 6, 7, 7, 7, 7, 7, 7, 7, 7, 7, 7, 7, 7, 7, 7, 7, 7, 7, 7, 7, 7, 7, 7, 7, 7, 7, 7, 7, 7, 7, 7, 7, 7, 7, 7, 7, 7, 7, 7, 7, 7, 7, 7, 7, 7, 7, 7, 7, 7, 7, 7, 7, 7, 7, 7, 7, 7, 7, 7, 7, 7, 7, 7, 7, 7, 8, 8, 8, 8, 8, 8, 8, 8, 8, 8, 8, 8, 8, 8, 8, 8, 8, 8, 8, 8, 8, 8, 8, 8, 8, 8, 8, 8, 8, 8, 8, 8, 8, 8, 8, 8, 8, 8, 8, 8, 8, 8, 8, 8, 8, 8, 8, 8, 8, 8, 8, 8, 8, 8, 8, 8, 8, 8, 8, 8, 8, 8, 8, 8, 8, 8, 8, 8, 8, 8, 8, 8, 8, 8, 8, 8, 8, 8, 8, 8, 8, 8, 8, 8, 8, 8, 8, 8, 8, 8, 8, 8, 8, 8, 8, 8, 8, 8, 8, 8, 8, 8, 8, 8, 8, 8, 8, 8, 8, 8, 8, 8, 8, 8, 8, 8, 8, 8, 8, 8, 8, 8, 8, 8, 8, 8, 8, 8]
abbrev len64_i : Items := [(.tmp 0, .dat (.int .u64))]
abbrev len64_o : Items := [(.tmp 0, .di)]
abbrev len64_r : List RS := [.one]
def len64_d [Lk] : (Int × Unit) → Option ((Int × Unit)) := fun (a0, _) =>
 match (ile 4294967296 a0) with
 | true => match shr? .u64 a0 32 with
  | none => none
  | some x0 => match (ile 65536 x0) with
   | true => match shr? .u64 x0 16 with
    | none => none
    | some x1 => match (ile 256 x1) with
     | true => match shr? .u64 x1 8 with
      | none => none
      | some x2 => match idx lenTab (IntKind.wrap .u8 x2) with
       | none => none
       | some x3 => some ((IntKind.wrap .i64 ((IntKind.wrap .i64 ((IntKind.wrap .i64 (32 + 16)) + 8)) + (IntKind.wrap .i64 x3))), ())
     | false => match idx lenTab (IntKind.wrap .u8 x1) with
      | none => none
      | some x4 => some ((IntKind.wrap .i64 ((IntKind.wrap .i64 (32 + 16)) + (IntKind.wrap .i64 x4))), ())
   | false => match (ile 256 x0) with
    | true => match shr? .u64 x0 8 with
     | none => none
     | some x5 => match idx lenTab (IntKind.wrap .u8 x5) with
      | none => none
      | some x6 => some ((IntKind.wrap .i64 ((IntKind.wrap .i64 (32 + 8)) + (IntKind.wrap .i64 x6))), ())
    | false => match idx lenTab (IntKind.wrap .u8 x0) with
     | none => none
     | some x7 => some ((IntKind.wrap .i64 (32 + (IntKind.wrap .i64 x7))), ())
 | false => match (ile 65536 a0) with
  | true => match shr? .u64 a0 16 with
   | none => none
   | some x8 => match (ile 256 x8) with
    | true => match shr? .u64 x8 8 with
     | none => none
     | some x9 => match idx lenTab (IntKind.wrap .u8 x9) with
      | none => none
      | some x10 => some ((IntKind.wrap .i64 ((IntKind.wrap .i64 ((IntKind.wrap .i64 (0 + 16)) + 8)) + (IntKind.wrap .i64 x10))), ())
    | false => match idx lenTab (IntKind.wrap .u8 x8) with
     | none => none
     | some x11 => some ((IntKind.wrap .i64 ((IntKind.wrap .i64 (0 + 16)) + (IntKind.wrap .i64 x11))), ())
  | false => match (ile 256 a0) with
   | true => match shr? .u64 a0 8 with
    | none => none
    | some x12 => match idx lenTab (IntKind.wrap .u8 x12) with
     | none => none
     | some x13 => some ((IntKind.wrap .i64 ((IntKind.wrap .i64 (0 + 8)) + (IntKind.wrap .i64 x13))), ())
   | false => match idx lenTab (IntKind.wrap .u8 a0) with
    | none => none
    | some x14 => some ((IntKind.wrap .i64 (0 + (IntKind.wrap .i64 x14))), ())
def len64 [Lk] := fun v => Lk.f (len64_d v)
theorem len64_eq v : len64 v = len64_d v := lock_eq _
-- math/bits.Len
abbrev bitsLen_i : Items := [(.tmp 0, .dat (.int .u64))]
abbrev bitsLen_o : Items := [(.tmp 0, .di)]
abbrev bitsLen_r : List RS := [.one]
def bitsLen_d [Lk] : (Int × Unit) → Option ((Int × Unit)) := fun (a0, _) =>
 match len64 (a0, ()) with
 | none => none
 | some (y0, _) => some (y0, ())
def bitsLen [Lk] := fun v => Lk.f (bitsLen_d v)
theorem bitsLen_eq v : bitsLen v = bitsLen_d v := lock_eq _
-- (*slices.xorshift).Next
abbrev xorNext_i : Items := [(.tmp 0, .box 1), (.cell 0 0, .dat (.int .u64))]
abbrev xorNext_o : Items := [(.obj 0, .box 1), (.cell 0 0, .dat (.int .u64)), (.tmp 0, .dat (.int .u64))]
abbrev xorNext_r : List RS := [.one]
def xorNext_d [Lk] : (Int × Unit) → Option ((Int × Int × Unit)) := fun (a0, _) =>
 match shl? .u64 a0 13 with
 | none => none
 | some x0 => match shr? .u64 (IntKind.wrap .u64 ((BitVec.ofInt (IntKind.bits .u64) a0 ^^^ BitVec.ofInt (IntKind.bits .u64) x0).toNat)) 7 with
  | none => none
  | some x1 => match shl? .u64 (IntKind.wrap .u64 ((BitVec.ofInt (IntKind.bits .u64) (IntKind.wrap .u64 ((BitVec.ofInt (IntKind.bits .u64) a0 ^^^ BitVec.ofInt (IntKind.bits .u64) x0).toNat)) ^^^ BitVec.ofInt (IntKind.bits .u64) x1).toNat)) 17 with
   | none => none
   | some x2 => some ((IntKind.wrap .u64 ((BitVec.ofInt (IntKind.bits .u64) (IntKind.wrap .u64 ((BitVec.ofInt (IntKind.bits .u64) (IntKind.wrap .u64 ((BitVec.ofInt (IntKind.bits .u64) a0 ^^^ BitVec.ofInt (IntKind.bits .u64) x0).toNat)) ^^^ BitVec.ofInt (IntKind.bits .u64) x1).toNat)) ^^^ BitVec.ofInt (IntKind.bits .u64) x2).toNat)), (IntKind.wrap .u64 ((BitVec.ofInt (IntKind.bits .u64) (IntKind.wrap .u64 ((BitVec.ofInt (IntKind.bits .u64) (IntKind.wrap .u64 ((BitVec.ofInt (IntKind.bits .u64) a0 ^^^ BitVec.ofInt (IntKind.bits .u64) x0).toNat)) ^^^ BitVec.ofInt (IntKind.bits .u64) x1).toNat)) ^^^ BitVec.ofInt (IntKind.bits .u64) x2).toNat)), ())
def xorNext [Lk] := fun v => Lk.f (xorNext_d v)
theorem xorNext_eq v : xorNext v = xorNext_d v := lock_eq _
-- slices.nextPowerOfTwo
abbrev nextPow_i : Items := [(.tmp 0, .di)]
abbrev nextPow_o : Items := [(.tmp 0, .dat (.int .u64))]
abbrev nextPow_r : List RS := [.one]
def nextPow_d [Lk] : (Int × Unit) → Option ((Int × Unit)) := fun (a0, _) =>
 match bitsLen ((IntKind.wrap .u64 a0), ()) with
 | none => none
 | some (y0, _) => match shl? .u64 1 y0 with
  | none => none
  | some x1 => some (x1, ())
def nextPow [Lk] := fun v => Lk.f (nextPow_d v)
theorem nextPow_eq v : nextPow v = nextPow_d v := lock_eq _
-- slices.insertionSortCmpFunc[[]int]
abbrev insL_i : Items := [(.tmp 0, .own 43 (.slice (.int .i64))), (.tmp 1, .di), (.tmp 2, .di), (.tmp 3, .clo 166 [])]
abbrev insL_o : Items := [(.obj 0, .own 43 (.slice (.int .i64)))]
abbrev insL_r : List RS := []
abbrev insL_i1 : Items := [(.obj 0, .own 43 (.slice (.int .i64))), (.tmp 0, .own' 0), (.tmp 1, .di), (.tmp 2, .di), (.tmp 3, .clo 166 []), (.tmp 8, .di), (.tmp 9, .di)]
abbrev insL_o1 : Outs := [(.exit 2, [(.obj 0, .own 43 (.slice (.int .i64))), (.tmp 0, .own' 0), (.tmp 1, .di), (.tmp 2, .di), (.tmp 3, .clo 166 []), (.tmp 8, .di)])]
def insL_s1 [Lk] : (List (List Int) × Int × Int × Int × Int × Unit) → Option ((List (List Int) × Int × Int × Int × Int × Unit) ⊕ (List (List Int) × Int × Int × Int × Unit) ⊕ Unit) := fun (a0, a1, a2, a3, a4, _) =>
 match (ilt a1 a4) with
 | true => match idx a0 a4 with
  | none => none
  | some x0 => match idx a0 (IntKind.wrap .i64 (a4 - 1)) with
   | none => none
   | some x1 => match with1 ((dget a0 (dnat a4) ([] : List (Int))), (dget a0 (dnat (IntKind.wrap .i64 (a4 - 1))) ([] : List (Int))), ()) with
    | none => none
    | some (y2, _) => match (ilt y2 0) with
     | true => match idx a0 (IntKind.wrap .i64 (a4 - 1)) with
      | none => none
      | some x3 => match idx a0 a4 with
       | none => none
       | some x4 => match idx a0 a4 with
        | none => none
        | some x5 => match idx (dset a0 (dnat a4) (dget a0 (dnat (IntKind.wrap .i64 (a4 - 1))) ([] : List (Int)))) (IntKind.wrap .i64 (a4 - 1)) with
         | none => none
         | some x6 => some (.inl ((dset (dset a0 (dnat a4) (dget a0 (dnat (IntKind.wrap .i64 (a4 - 1))) ([] : List (Int)))) (dnat (IntKind.wrap .i64 (a4 - 1))) (dget a0 (dnat a4) ([] : List (Int)))), a1, a2, a3, (IntKind.wrap .i64 (a4 - 1)), ()))
     | false => some (.inr (.inl (a0, a1, a2, a3, ())))
 | false => some (.inr (.inl (a0, a1, a2, a3, ())))
abbrev insL_i0 : Items := [(.obj 0, .own 43 (.slice (.int .i64))), (.tmp 0, .own' 0), (.tmp 1, .di), (.tmp 2, .di), (.tmp 3, .clo 166 []), (.tmp 8, .di)]
abbrev insL_o0 : Outs := [(.exit 0, [(.obj 0, .own 43 (.slice (.int .i64)))])]
def insL_s0 [Lk] : (List (List Int) × Int × Int × Int × Unit) → Option ((List (List Int) × Int × Int × Int × Unit) ⊕ (List (List Int) × Unit) ⊕ Unit) := fun (a0, a1, a2, a3, _) =>
 match (ilt a3 a2) with
 | true => match iterL insL_s1 many (a0, a1, a2, a3, a3, ()) with
  | none => none
  | some r => match r with
   | .inl (o0, o1, o2, o3, _) => some (.inl (o0, o1, o2, (IntKind.wrap .i64 (o3 + 1)), ()))
   | .inr _ => none
 | false => some (.inr (.inl (a0, ())))
def insL_d [Lk] : (List (List Int) × Int × Int × Unit) → Option ((List (List Int) × Unit)) := fun (a0, a1, a2, _) =>
 match iterL insL_s0 many (a0, a1, a2, (IntKind.wrap .i64 (a1 + 1)), ()) with
 | none => none
 | some r => match r with
  | .inl (o0, _) => some (o0, ())
  | .inr _ => none
def insL [Lk] := fun v => Lk.f (insL_d v)
theorem insL_eq v : insL v = insL_d v := lock_eq _
-- slices.siftDownCmpFunc[[]int]
abbrev siftL_i : Items := [(.tmp 0, .own 43 (.slice (.int .i64))), (.tmp 1, .di), (.tmp 2, .di), (.tmp 3, .di), (.tmp 4, .clo 166 [])]
abbrev siftL_o : Items := [(.obj 0, .own 43 (.slice (.int .i64)))]
abbrev siftL_r : List RS := []
abbrev siftL_i0 : Items := [(.obj 0, .own 43 (.slice (.int .i64))), (.tmp 0, .own' 0), (.tmp 2, .di), (.tmp 3, .di), (.tmp 4, .clo 166 []), (.tmp 10, .di)]
abbrev siftL_o0 : Outs := [(.exit 0, [(.obj 0, .own 43 (.slice (.int .i64)))]), (.ret, [(.obj 0, .own 43 (.slice (.int .i64)))])]
def siftL_s0 [Lk] : (List (List Int) × Int × Int × Int × Unit) → Option ((List (List Int) × Int × Int × Int × Unit) ⊕ (List (List Int) × Unit) ⊕ (List (List Int) × Unit) ⊕ Unit) := fun (a0, a1, a2, a3, _) =>
 match (ile a1 (IntKind.wrap .i64 ((IntKind.wrap .i64 (2 * a3)) + 1))) with
 | true => some (.inr (.inl (a0, ())))
 | false => match (ilt (IntKind.wrap .i64 ((IntKind.wrap .i64 ((IntKind.wrap .i64 (2 * a3)) + 1)) + 1)) a1) with
  | true => match idx a0 (IntKind.wrap .i64 (a2 + (IntKind.wrap .i64 ((IntKind.wrap .i64 (2 * a3)) + 1)))) with
   | none => none
   | some x0 => match idx a0 (IntKind.wrap .i64 ((IntKind.wrap .i64 (a2 + (IntKind.wrap .i64 ((IntKind.wrap .i64 (2 * a3)) + 1)))) + 1)) with
    | none => none
    | some x1 => match with1 ((dget a0 (dnat (IntKind.wrap .i64 (a2 + (IntKind.wrap .i64 ((IntKind.wrap .i64 (2 * a3)) + 1))))) ([] : List (Int))), (dget a0 (dnat (IntKind.wrap .i64 ((IntKind.wrap .i64 (a2 + (IntKind.wrap .i64 ((IntKind.wrap .i64 (2 * a3)) + 1)))) + 1))) ([] : List (Int))), ()) with
     | none => none
     | some (y2, _) => match (ilt y2 0) with
      | true => match idx a0 (IntKind.wrap .i64 (a2 + a3)) with
       | none => none
       | some x3 => match idx a0 (IntKind.wrap .i64 (a2 + (IntKind.wrap .i64 ((IntKind.wrap .i64 ((IntKind.wrap .i64 (2 * a3)) + 1)) + 1)))) with
        | none => none
        | some x4 => match with1 ((dget a0 (dnat (IntKind.wrap .i64 (a2 + a3))) ([] : List (Int))), (dget a0 (dnat (IntKind.wrap .i64 (a2 + (IntKind.wrap .i64 ((IntKind.wrap .i64 ((IntKind.wrap .i64 (2 * a3)) + 1)) + 1))))) ([] : List (Int))), ()) with
         | none => none
         | some (y5, _) => match (!(ilt y5 0)) with
          | true => some (.inr (.inr (.inl (a0, ()))))
          | false => match idx a0 (IntKind.wrap .i64 (a2 + (IntKind.wrap .i64 ((IntKind.wrap .i64 ((IntKind.wrap .i64 (2 * a3)) + 1)) + 1)))) with
           | none => none
           | some x6 => match idx a0 (IntKind.wrap .i64 (a2 + a3)) with
            | none => none
            | some x7 => match idx a0 (IntKind.wrap .i64 (a2 + a3)) with
             | none => none
             | some x8 => match idx (dset a0 (dnat (IntKind.wrap .i64 (a2 + a3))) (dget a0 (dnat (IntKind.wrap .i64 (a2 + (IntKind.wrap .i64 ((IntKind.wrap .i64 ((IntKind.wrap .i64 (2 * a3)) + 1)) + 1))))) ([] : List (Int)))) (IntKind.wrap .i64 (a2 + (IntKind.wrap .i64 ((IntKind.wrap .i64 ((IntKind.wrap .i64 (2 * a3)) + 1)) + 1)))) with
              | none => none
              | some x9 => some (.inl ((dset (dset a0 (dnat (IntKind.wrap .i64 (a2 + a3))) (dget a0 (dnat (IntKind.wrap .i64 (a2 + (IntKind.wrap .i64 ((IntKind.wrap .i64 ((IntKind.wrap .i64 (2 * a3)) + 1)) + 1))))) ([] : List (Int)))) (dnat (IntKind.wrap .i64 (a2 + (IntKind.wrap .i64 ((IntKind.wrap .i64 ((IntKind.wrap .i64 (2 * a3)) + 1)) + 1))))) (dget a0 (dnat (IntKind.wrap .i64 (a2 + a3))) ([] : List (Int)))), a1, a2, (IntKind.wrap .i64 ((IntKind.wrap .i64 ((IntKind.wrap .i64 (2 * a3)) + 1)) + 1)), ()))
      | false => match idx a0 (IntKind.wrap .i64 (a2 + a3)) with
       | none => none
       | some x10 => match idx a0 (IntKind.wrap .i64 (a2 + (IntKind.wrap .i64 ((IntKind.wrap .i64 (2 * a3)) + 1)))) with
        | none => none
        | some x11 => match with1 ((dget a0 (dnat (IntKind.wrap .i64 (a2 + a3))) ([] : List (Int))), (dget a0 (dnat (IntKind.wrap .i64 (a2 + (IntKind.wrap .i64 ((IntKind.wrap .i64 (2 * a3)) + 1))))) ([] : List (Int))), ()) with
         | none => none
         | some (y12, _) => match (!(ilt y12 0)) with
          | true => some (.inr (.inr (.inl (a0, ()))))
          | false => match idx a0 (IntKind.wrap .i64 (a2 + (IntKind.wrap .i64 ((IntKind.wrap .i64 (2 * a3)) + 1)))) with
           | none => none
           | some x13 => match idx a0 (IntKind.wrap .i64 (a2 + a3)) with
            | none => none
            | some x14 => match idx a0 (IntKind.wrap .i64 (a2 + a3)) with
             | none => none
             | some x15 => match idx (dset a0 (dnat (IntKind.wrap .i64 (a2 + a3))) (dget a0 (dnat (IntKind.wrap .i64 (a2 + (IntKind.wrap .i64 ((IntKind.wrap .i64 (2 * a3)) + 1))))) ([] : List (Int)))) (IntKind.wrap .i64 (a2 + (IntKind.wrap .i64 ((IntKind.wrap .i64 (2 * a3)) + 1)))) with
              | none => none
              | some x16 => some (.inl ((dset (dset a0 (dnat (IntKind.wrap .i64 (a2 + a3))) (dget a0 (dnat (IntKind.wrap .i64 (a2 + (IntKind.wrap .i64 ((IntKind.wrap .i64 (2 * a3)) + 1))))) ([] : List (Int)))) (dnat (IntKind.wrap .i64 (a2 + (IntKind.wrap .i64 ((IntKind.wrap .i64 (2 * a3)) + 1))))) (dget a0 (dnat (IntKind.wrap .i64 (a2 + a3))) ([] : List (Int)))), a1, a2, (IntKind.wrap .i64 ((IntKind.wrap .i64 (2 * a3)) + 1)), ()))
  | false => match idx a0 (IntKind.wrap .i64 (a2 + a3)) with
   | none => none
   | some x17 => match idx a0 (IntKind.wrap .i64 (a2 + (IntKind.wrap .i64 ((IntKind.wrap .i64 (2 * a3)) + 1)))) with
    | none => none
    | some x18 => match with1 ((dget a0 (dnat (IntKind.wrap .i64 (a2 + a3))) ([] : List (Int))), (dget a0 (dnat (IntKind.wrap .i64 (a2 + (IntKind.wrap .i64 ((IntKind.wrap .i64 (2 * a3)) + 1))))) ([] : List (Int))), ()) with
     | none => none
     | some (y19, _) => match (!(ilt y19 0)) with
      | true => some (.inr (.inr (.inl (a0, ()))))
      | false => match idx a0 (IntKind.wrap .i64 (a2 + (IntKind.wrap .i64 ((IntKind.wrap .i64 (2 * a3)) + 1)))) with
       | none => none
       | some x20 => match idx a0 (IntKind.wrap .i64 (a2 + a3)) with
        | none => none
        | some x21 => match idx a0 (IntKind.wrap .i64 (a2 + a3)) with
         | none => none
         | some x22 => match idx (dset a0 (dnat (IntKind.wrap .i64 (a2 + a3))) (dget a0 (dnat (IntKind.wrap .i64 (a2 + (IntKind.wrap .i64 ((IntKind.wrap .i64 (2 * a3)) + 1))))) ([] : List (Int)))) (IntKind.wrap .i64 (a2 + (IntKind.wrap .i64 ((IntKind.wrap .i64 (2 * a3)) + 1)))) with
          | none => none
          | some x23 => some (.inl ((dset (dset a0 (dnat (IntKind.wrap .i64 (a2 + a3))) (dget a0 (dnat (IntKind.wrap .i64 (a2 + (IntKind.wrap .i64 ((IntKind.wrap .i64 (2 * a3)) + 1))))) ([] : List (Int)))) (dnat (IntKind.wrap .i64 (a2 + (IntKind.wrap .i64 ((IntKind.wrap .i64 (2 * a3)) + 1))))) (dget a0 (dnat (IntKind.wrap .i64 (a2 + a3))) ([] : List (Int)))), a1, a2, (IntKind.wrap .i64 ((IntKind.wrap .i64 (2 * a3)) + 1)), ()))
def siftL_d [Lk] : (List (List Int) × Int × Int × Int × Unit) → Option ((List (List Int) × Unit)) := fun (a0, a1, a2, a3, _) =>
 match iterL siftL_s0 many (a0, a2, a3, a1, ()) with
 | none => none
 | some r => match r with
  | .inl (o0, _) => some (o0, ())
  | .inr r => match r with
   | .inl (o1, _) => some (o1, ())
   | .inr _ => none
def siftL [Lk] := fun v => Lk.f (siftL_d v)
theorem siftL_eq v : siftL v = siftL_d v := lock_eq _
-- slices.heapSortCmpFunc[[]int]
abbrev heapL_i : Items := [(.tmp 0, .own 43 (.slice (.int .i64))), (.tmp 1, .di), (.tmp 2, .di), (.tmp 3, .clo 166 [])]
abbrev heapL_o : Items := [(.obj 0, .own 43 (.slice (.int .i64)))]
abbrev heapL_r : List RS := []
abbrev heapL_i1 : Items := [(.obj 0, .own 43 (.slice (.int .i64))), (.tmp 0, .own' 0), (.tmp 3, .clo 166 []), (.tmp 8, .di), (.tmp 9, .di), (.tmp 12, .di)]
abbrev heapL_o1 : Outs := [(.exit 2, [(.obj 0, .own 43 (.slice (.int .i64)))])]
def heapL_s1 [Lk] : (List (List Int) × Int × Int × Int × Unit) → Option ((List (List Int) × Int × Int × Int × Unit) ⊕ (List (List Int) × Unit) ⊕ Unit) := fun (a0, a1, a2, a3, _) =>
 match (ile 0 a3) with
 | true => match idx a0 (IntKind.wrap .i64 (a1 + a3)) with
  | none => none
  | some x0 => match idx a0 a1 with
   | none => none
   | some x1 => match idx a0 a1 with
    | none => none
    | some x2 => match idx (dset a0 (dnat a1) (dget a0 (dnat (IntKind.wrap .i64 (a1 + a3))) ([] : List (Int)))) (IntKind.wrap .i64 (a1 + a3)) with
     | none => none
     | some x3 => match siftL ((dset (dset a0 (dnat a1) (dget a0 (dnat (IntKind.wrap .i64 (a1 + a3))) ([] : List (Int)))) (dnat (IntKind.wrap .i64 (a1 + a3))) (dget a0 (dnat a1) ([] : List (Int)))), a2, a3, a1, ()) with
      | none => none
      | some (y4, _) => some (.inl (y4, a1, a2, (IntKind.wrap .i64 (a3 - 1)), ()))
 | false => some (.inr (.inl (a0, ())))
abbrev heapL_i0 : Items := [(.obj 0, .own 43 (.slice (.int .i64))), (.tmp 0, .own' 0), (.tmp 3, .clo 166 []), (.tmp 8, .di), (.tmp 9, .di), (.tmp 10, .di), (.tmp 11, .di)]
abbrev heapL_o0 : Outs := [(.exit 0, [(.obj 0, .own 43 (.slice (.int .i64))), (.tmp 0, .own' 0), (.tmp 3, .clo 166 []), (.tmp 8, .di), (.tmp 9, .di), (.tmp 10, .di)])]
def heapL_s0 [Lk] : (List (List Int) × Int × Int × Int × Int × Unit) → Option ((List (List Int) × Int × Int × Int × Int × Unit) ⊕ (List (List Int) × Int × Int × Int × Unit) ⊕ Unit) := fun (a0, a1, a2, a3, a4, _) =>
 match (ile 0 a4) with
 | true => match siftL (a0, a4, a3, a1, ()) with
  | none => none
  | some (y0, _) => some (.inl (y0, a1, a2, a3, (IntKind.wrap .i64 (a4 - 1)), ()))
 | false => some (.inr (.inl (a0, a1, a2, a3, ())))
def heapL_d [Lk] : (List (List Int) × Int × Int × Unit) → Option ((List (List Int) × Unit)) := fun (a0, a1, a2, _) =>
 match quo? .i64 (IntKind.wrap .i64 ((IntKind.wrap .i64 (a2 - a1)) - 1)) 2 with
 | none => none
 | some x0 => match iterL heapL_s0 many (a0, a1, 0, (IntKind.wrap .i64 (a2 - a1)), x0, ()) with
  | none => none
  | some r => match r with
   | .inl (o1, o2, o3, o4, _) => match iterL heapL_s1 many (o1, o2, o3, (IntKind.wrap .i64 (o4 - 1)), ()) with
    | none => none
    | some r => match r with
     | .inl (o5, _) => some (o5, ())
     | .inr _ => none
   | .inr _ => none
def heapL [Lk] := fun v => Lk.f (heapL_d v)
theorem heapL_eq v : heapL v = heapL_d v := lock_eq _
-- slices.breakPatternsCmpFunc[[]int]
abbrev breakL_i : Items := [(.tmp 0, .own 43 (.slice (.int .i64))), (.tmp 1, .di), (.tmp 2, .di), (.tmp 3, .clo 166 [])]
abbrev breakL_o : Items := [(.obj 0, .own 43 (.slice (.int .i64)))]
abbrev breakL_r : List RS := []
abbrev breakL_i0 : Items := [(.obj 0, .own 43 (.slice (.int .i64))), (.tmp 0, .own' 0), (.tmp 1, .di), (.tmp 8, .di), (.tmp 9, .box 1), (.cell 1 0, .dat (.int .u64)), (.tmp 10, .dat (.int .u64)), (.tmp 11, .di)]
abbrev breakL_o0 : Outs := [(.exit 0, [(.obj 0, .own 43 (.slice (.int .i64)))])]
def breakL_s0 [Lk] : (List (List Int) × Int × Int × Int × Int × Int × Unit) → Option ((List (List Int) × Int × Int × Int × Int × Int × Unit) ⊕ (List (List Int) × Unit) ⊕ Unit) := fun (a0, a1, a2, a3, a4, a5, _) =>
 match quo? .i64 a2 4 with
 | none => none
 | some x0 => match (ile a5 (IntKind.wrap .i64 ((IntKind.wrap .i64 (a1 + (IntKind.wrap .i64 (x0 * 2)))) + 1))) with
  | true => match xorNext (a3, ()) with
   | none => none
   | some (y1, y2, _) => match (ile a2 (IntKind.wrap .i64 (IntKind.wrap .u64 ((BitVec.ofInt (IntKind.bits .u64) y2 &&& BitVec.ofInt (IntKind.bits .u64) (IntKind.wrap .u64 (a4 - 1))).toNat)))) with
    | true => match idx a0 (IntKind.wrap .i64 (a1 + (IntKind.wrap .i64 ((IntKind.wrap .i64 (IntKind.wrap .u64 ((BitVec.ofInt (IntKind.bits .u64) y2 &&& BitVec.ofInt (IntKind.bits .u64) (IntKind.wrap .u64 (a4 - 1))).toNat))) - a2)))) with
     | none => none
     | some x3 => match idx a0 a5 with
      | none => none
      | some x4 => match idx a0 a5 with
       | none => none
       | some x5 => match idx (dset a0 (dnat a5) (dget a0 (dnat (IntKind.wrap .i64 (a1 + (IntKind.wrap .i64 ((IntKind.wrap .i64 (IntKind.wrap .u64 ((BitVec.ofInt (IntKind.bits .u64) y2 &&& BitVec.ofInt (IntKind.bits .u64) (IntKind.wrap .u64 (a4 - 1))).toNat))) - a2))))) ([] : List (Int)))) (IntKind.wrap .i64 (a1 + (IntKind.wrap .i64 ((IntKind.wrap .i64 (IntKind.wrap .u64 ((BitVec.ofInt (IntKind.bits .u64) y2 &&& BitVec.ofInt (IntKind.bits .u64) (IntKind.wrap .u64 (a4 - 1))).toNat))) - a2)))) with
        | none => none
        | some x6 => some (.inl ((dset (dset a0 (dnat a5) (dget a0 (dnat (IntKind.wrap .i64 (a1 + (IntKind.wrap .i64 ((IntKind.wrap .i64 (IntKind.wrap .u64 ((BitVec.ofInt (IntKind.bits .u64) y2 &&& BitVec.ofInt (IntKind.bits .u64) (IntKind.wrap .u64 (a4 - 1))).toNat))) - a2))))) ([] : List (Int)))) (dnat (IntKind.wrap .i64 (a1 + (IntKind.wrap .i64 ((IntKind.wrap .i64 (IntKind.wrap .u64 ((BitVec.ofInt (IntKind.bits .u64) y2 &&& BitVec.ofInt (IntKind.bits .u64) (IntKind.wrap .u64 (a4 - 1))).toNat))) - a2))))) (dget a0 (dnat a5) ([] : List (Int)))), a1, a2, y1, a4, (IntKind.wrap .i64 (a5 + 1)), ()))
    | false => match idx a0 (IntKind.wrap .i64 (a1 + (IntKind.wrap .i64 (IntKind.wrap .u64 ((BitVec.ofInt (IntKind.bits .u64) y2 &&& BitVec.ofInt (IntKind.bits .u64) (IntKind.wrap .u64 (a4 - 1))).toNat))))) with
     | none => none
     | some x7 => match idx a0 a5 with
      | none => none
      | some x8 => match idx a0 a5 with
       | none => none
       | some x9 => match idx (dset a0 (dnat a5) (dget a0 (dnat (IntKind.wrap .i64 (a1 + (IntKind.wrap .i64 (IntKind.wrap .u64 ((BitVec.ofInt (IntKind.bits .u64) y2 &&& BitVec.ofInt (IntKind.bits .u64) (IntKind.wrap .u64 (a4 - 1))).toNat)))))) ([] : List (Int)))) (IntKind.wrap .i64 (a1 + (IntKind.wrap .i64 (IntKind.wrap .u64 ((BitVec.ofInt (IntKind.bits .u64) y2 &&& BitVec.ofInt (IntKind.bits .u64) (IntKind.wrap .u64 (a4 - 1))).toNat))))) with
        | none => none
        | some x10 => some (.inl ((dset (dset a0 (dnat a5) (dget a0 (dnat (IntKind.wrap .i64 (a1 + (IntKind.wrap .i64 (IntKind.wrap .u64 ((BitVec.ofInt (IntKind.bits .u64) y2 &&& BitVec.ofInt (IntKind.bits .u64) (IntKind.wrap .u64 (a4 - 1))).toNat)))))) ([] : List (Int)))) (dnat (IntKind.wrap .i64 (a1 + (IntKind.wrap .i64 (IntKind.wrap .u64 ((BitVec.ofInt (IntKind.bits .u64) y2 &&& BitVec.ofInt (IntKind.bits .u64) (IntKind.wrap .u64 (a4 - 1))).toNat)))))) (dget a0 (dnat a5) ([] : List (Int)))), a1, a2, y1, a4, (IntKind.wrap .i64 (a5 + 1)), ()))
  | false => some (.inr (.inl (a0, ())))
def breakL_d [Lk] : (List (List Int) × Int × Int × Unit) → Option ((List (List Int) × Unit)) := fun (a0, a1, a2, _) =>
 match (ile 8 (IntKind.wrap .i64 (a2 - a1))) with
 | true => match nextPow ((IntKind.wrap .i64 (a2 - a1)), ()) with
  | none => none
  | some (y0, _) => match quo? .i64 (IntKind.wrap .i64 (a2 - a1)) 4 with
   | none => none
   | some x1 => match iterL breakL_s0 many (a0, a1, (IntKind.wrap .i64 (a2 - a1)), (IntKind.wrap .u64 (IntKind.wrap .i64 (a2 - a1))), y0, (IntKind.wrap .i64 ((IntKind.wrap .i64 (a1 + (IntKind.wrap .i64 (x1 * 2)))) - 1)), ()) with
    | none => none
    | some r => match r with
     | .inl (o2, _) => some (o2, ())
     | .inr _ => none
 | false => some (a0, ())
def breakL [Lk] := fun v => Lk.f (breakL_d v)
theorem breakL_eq v : breakL v = breakL_d v := lock_eq _
-- slices.order2CmpFunc[[]int]
abbrev order2L_i : Items := [(.tmp 0, .own 43 (.slice (.int .i64))), (.tmp 1, .di), (.tmp 2, .di), (.tmp 3, .box 1), (.cell 1 0, .di), (.tmp 4, .clo 166 [])]
abbrev order2L_o : Items := [(.obj 0, .own 43 (.slice (.int .i64))), (.obj 1, .box 1), (.cell 1 0, .di), (.tmp 0, .di), (.tmp 1, .di)]
abbrev order2L_r : List RS := [.one, .one]
def order2L_d [Lk] : (List (List Int) × Int × Int × Int × Unit) → Option ((List (List Int) × Int × Int × Int × Unit)) := fun (a0, a1, a2, a3, _) =>
 match idx a0 a2 with
 | none => none
 | some x0 => match idx a0 a1 with
  | none => none
  | some x1 => match with1 ((dget a0 (dnat a2) ([] : List (Int))), (dget a0 (dnat a1) ([] : List (Int))), ()) with
   | none => none
   | some (y2, _) => match (ilt y2 0) with
    | true => some (a0, (IntKind.wrap .i64 (a3 + 1)), a2, a1, ())
    | false => some (a0, a3, a1, a2, ())
def order2L [Lk] := fun v => Lk.f (order2L_d v)
theorem order2L_eq v : order2L v = order2L_d v := lock_eq _
-- slices.medianCmpFunc[[]int]
abbrev medianL_i : Items := [(.tmp 0, .own 43 (.slice (.int .i64))), (.tmp 1, .di), (.tmp 2, .di), (.tmp 3, .di), (.tmp 4, .box 1), (.cell 1 0, .di), (.tmp 5, .clo 166 [])]
abbrev medianL_o : Items := [(.obj 0, .own 43 (.slice (.int .i64))), (.obj 1, .box 1), (.cell 1 0, .di), (.tmp 0, .di)]
abbrev medianL_r : List RS := [.one]
def medianL_d [Lk] : (List (List Int) × Int × Int × Int × Int × Unit) → Option ((List (List Int) × Int × Int × Unit)) := fun (a0, a1, a2, a3, a4, _) =>
 match order2L (a0, a1, a2, a4, ()) with
 | none => none
 | some (y0, y1, y2, y3, _) => match order2L (y0, y3, a3, y1, ()) with
  | none => none
  | some (y4, y5, y6, y7, _) => match order2L (y4, y2, y6, y5, ()) with
   | none => none
   | some (y8, y9, y10, y11, _) => some (y8, y9, y11, ())
def medianL [Lk] := fun v => Lk.f (medianL_d v)
theorem medianL_eq v : medianL v = medianL_d v := lock_eq _
-- slices.medianAdjacentCmpFunc[[]int]
abbrev medAdjL_i : Items := [(.tmp 0, .own 43 (.slice (.int .i64))), (.tmp 1, .di), (.tmp 2, .box 1), (.cell 1 0, .di), (.tmp 3, .clo 166 [])]
abbrev medAdjL_o : Items := [(.obj 0, .own 43 (.slice (.int .i64))), (.obj 1, .box 1), (.cell 1 0, .di), (.tmp 0, .di)]
abbrev medAdjL_r : List RS := [.one]
def medAdjL_d [Lk] : (List (List Int) × Int × Int × Unit) → Option ((List (List Int) × Int × Int × Unit)) := fun (a0, a1, a2, _) =>
 match medianL (a0, (IntKind.wrap .i64 (a1 - 1)), a1, (IntKind.wrap .i64 (a1 + 1)), a2, ()) with
 | none => none
 | some (y0, y1, y2, _) => some (y0, y1, y2, ())
def medAdjL [Lk] := fun v => Lk.f (medAdjL_d v)
theorem medAdjL_eq v : medAdjL v = medAdjL_d v := lock_eq _
-- slices.choosePivotCmpFunc[[]int]
abbrev pivotL_i : Items := [(.tmp 0, .own 43 (.slice (.int .i64))), (.tmp 1, .di), (.tmp 2, .di), (.tmp 3, .clo 166 [])]
abbrev pivotL_o : Items := [(.obj 0, .own 43 (.slice (.int .i64))), (.tmp 0, .di), (.tmp 1, .di)]
abbrev pivotL_r : List RS := [.one, .one]
def pivotL_d [Lk] : (List (List Int) × Int × Int × Unit) → Option ((List (List Int) × Int × Int × Unit)) := fun (a0, a1, a2, _) =>
 match quo? .i64 (IntKind.wrap .i64 (a2 - a1)) 4 with
 | none => none
 | some x0 => match quo? .i64 (IntKind.wrap .i64 (a2 - a1)) 4 with
  | none => none
  | some x1 => match quo? .i64 (IntKind.wrap .i64 (a2 - a1)) 4 with
   | none => none
   | some x2 => match (ile 8 (IntKind.wrap .i64 (a2 - a1))) with
    | true => match (ile 50 (IntKind.wrap .i64 (a2 - a1))) with
     | true => match medAdjL (a0, (IntKind.wrap .i64 (a1 + (IntKind.wrap .i64 (x0 * 1)))), 0, ()) with
      | none => none
      | some (y3, y4, y5, _) => match medAdjL (y3, (IntKind.wrap .i64 (a1 + (IntKind.wrap .i64 (x1 * 2)))), y4, ()) with
       | none => none
       | some (y6, y7, y8, _) => match medAdjL (y6, (IntKind.wrap .i64 (a1 + (IntKind.wrap .i64 (x2 * 3)))), y7, ()) with
        | none => none
        | some (y9, y10, y11, _) => match medianL (y9, y5, y8, y11, y10, ()) with
         | none => none
         | some (y12, y13, y14, _) => match (ieq y13 0) with
          | true => some (y12, y14, 1, ())
          | false => match (ieq y13 12) with
           | true => some (y12, y14, 2, ())
           | false => some (y12, y14, 0, ())
     | false => match medianL (a0, (IntKind.wrap .i64 (a1 + (IntKind.wrap .i64 (x0 * 1)))), (IntKind.wrap .i64 (a1 + (IntKind.wrap .i64 (x1 * 2)))), (IntKind.wrap .i64 (a1 + (IntKind.wrap .i64 (x2 * 3)))), 0, ()) with
      | none => none
      | some (y15, y16, y17, _) => match (ieq y16 0) with
       | true => some (y15, y17, 1, ())
       | false => match (ieq y16 12) with
        | true => some (y15, y17, 2, ())
        | false => some (y15, y17, 0, ())
    | false => match (ieq 0 0) with
     | true => some (a0, (IntKind.wrap .i64 (a1 + (IntKind.wrap .i64 (x1 * 2)))), 1, ())
     | false => match (ieq 0 12) with
      | true => some (a0, (IntKind.wrap .i64 (a1 + (IntKind.wrap .i64 (x1 * 2)))), 2, ())
      | false => some (a0, (IntKind.wrap .i64 (a1 + (IntKind.wrap .i64 (x1 * 2)))), 0, ())
def pivotL [Lk] := fun v => Lk.f (pivotL_d v)
theorem pivotL_eq v : pivotL v = pivotL_d v := lock_eq _
-- slices.reverseRangeCmpFunc[[]int]
abbrev revL_i : Items := [(.tmp 0, .own 43 (.slice (.int .i64))), (.tmp 1, .di), (.tmp 2, .di), (.tmp 3, .clo 166 [])]
abbrev revL_o : Items := [(.obj 0, .own 43 (.slice (.int .i64)))]
abbrev revL_r : List RS := []
abbrev revL_i0 : Items := [(.obj 0, .own 43 (.slice (.int .i64))), (.tmp 0, .own' 0), (.tmp 8, .di), (.tmp 9, .di)]
abbrev revL_o0 : Outs := [(.exit 0, [(.obj 0, .own 43 (.slice (.int .i64)))])]
def revL_s0 [Lk] : (List (List Int) × Int × Int × Unit) → Option ((List (List Int) × Int × Int × Unit) ⊕ (List (List Int) × Unit) ⊕ Unit) := fun (a0, a1, a2, _) =>
 match (ilt a1 a2) with
 | true => match idx a0 a2 with
  | none => none
  | some x0 => match idx a0 a1 with
   | none => none
   | some x1 => match idx a0 a1 with
    | none => none
    | some x2 => match idx (dset a0 (dnat a1) (dget a0 (dnat a2) ([] : List (Int)))) a2 with
     | none => none
     | some x3 => some (.inl ((dset (dset a0 (dnat a1) (dget a0 (dnat a2) ([] : List (Int)))) (dnat a2) (dget a0 (dnat a1) ([] : List (Int)))), (IntKind.wrap .i64 (a1 + 1)), (IntKind.wrap .i64 (a2 - 1)), ()))
 | false => some (.inr (.inl (a0, ())))
def revL_d [Lk] : (List (List Int) × Int × Int × Unit) → Option ((List (List Int) × Unit)) := fun (a0, a1, a2, _) =>
 match iterL revL_s0 many (a0, a1, (IntKind.wrap .i64 (a2 - 1)), ()) with
 | none => none
 | some r => match r with
  | .inl (o0, _) => some (o0, ())
  | .inr _ => none
def revL [Lk] := fun v => Lk.f (revL_d v)
theorem revL_eq v : revL v = revL_d v := lock_eq _
-- slices.partialInsertionSortCmpFunc[[]int]
abbrev partInsL_i : Items := [(.tmp 0, .own 43 (.slice (.int .i64))), (.tmp 1, .di), (.tmp 2, .di), (.tmp 3, .clo 166 [])]
abbrev partInsL_o : Items := [(.obj 0, .own 43 (.slice (.int .i64))), (.tmp 0, .dat .bool)]
abbrev partInsL_r : List RS := [.one]
abbrev partInsL_i3 : Items := [(.obj 0, .own 43 (.slice (.int .i64))), (.tmp 0, .own' 0), (.tmp 1, .di), (.tmp 2, .di), (.tmp 3, .clo 166 []), (.tmp 9, .di), (.tmp 10, .di), (.tmp 12, .di)]
abbrev partInsL_o3 : Outs := [(.exit 6, [(.obj 0, .own 43 (.slice (.int .i64))), (.tmp 0, .own' 0), (.tmp 1, .di), (.tmp 2, .di), (.tmp 3, .clo 166 []), (.tmp 9, .di), (.tmp 10, .di)])]
def partInsL_s3 [Lk] : (List (List Int) × Int × Int × Int × Int × Int × Unit) → Option ((List (List Int) × Int × Int × Int × Int × Int × Unit) ⊕ (List (List Int) × Int × Int × Int × Int × Unit) ⊕ Unit) := fun (a0, a1, a2, a3, a4, a5, _) =>
 match (ilt a5 a2) with
 | true => match idx a0 a5 with
  | none => none
  | some x0 => match idx a0 (IntKind.wrap .i64 (a5 - 1)) with
   | none => none
   | some x1 => match with1 ((dget a0 (dnat a5) ([] : List (Int))), (dget a0 (dnat (IntKind.wrap .i64 (a5 - 1))) ([] : List (Int))), ()) with
    | none => none
    | some (y2, _) => match (!(ilt y2 0)) with
     | true => some (.inr (.inl (a0, a1, a2, a3, a4, ())))
     | false => match idx a0 (IntKind.wrap .i64 (a5 - 1)) with
      | none => none
      | some x3 => match idx a0 a5 with
       | none => none
       | some x4 => match idx a0 a5 with
        | none => none
        | some x5 => match idx (dset a0 (dnat a5) (dget a0 (dnat (IntKind.wrap .i64 (a5 - 1))) ([] : List (Int)))) (IntKind.wrap .i64 (a5 - 1)) with
         | none => none
         | some x6 => some (.inl ((dset (dset a0 (dnat a5) (dget a0 (dnat (IntKind.wrap .i64 (a5 - 1))) ([] : List (Int)))) (dnat (IntKind.wrap .i64 (a5 - 1))) (dget a0 (dnat a5) ([] : List (Int)))), a1, a2, a3, a4, (IntKind.wrap .i64 (a5 + 1)), ()))
 | false => some (.inr (.inl (a0, a1, a2, a3, a4, ())))
abbrev partInsL_i2 : Items := [(.obj 0, .own 43 (.slice (.int .i64))), (.tmp 0, .own' 0), (.tmp 1, .di), (.tmp 2, .di), (.tmp 3, .clo 166 []), (.tmp 9, .di), (.tmp 10, .di), (.tmp 11, .di)]
abbrev partInsL_o2 : Outs := [(.exit 4, [(.obj 0, .own 43 (.slice (.int .i64))), (.tmp 0, .own' 0), (.tmp 1, .di), (.tmp 2, .di), (.tmp 3, .clo 166 []), (.tmp 9, .di), (.tmp 10, .di)])]
def partInsL_s2 [Lk] : (List (List Int) × Int × Int × Int × Int × Int × Unit) → Option ((List (List Int) × Int × Int × Int × Int × Int × Unit) ⊕ (List (List Int) × Int × Int × Int × Int × Unit) ⊕ Unit) := fun (a0, a1, a2, a3, a4, a5, _) =>
 match (ile 1 a5) with
 | true => match idx a0 a5 with
  | none => none
  | some x0 => match idx a0 (IntKind.wrap .i64 (a5 - 1)) with
   | none => none
   | some x1 => match with1 ((dget a0 (dnat a5) ([] : List (Int))), (dget a0 (dnat (IntKind.wrap .i64 (a5 - 1))) ([] : List (Int))), ()) with
    | none => none
    | some (y2, _) => match (!(ilt y2 0)) with
     | true => some (.inr (.inl (a0, a1, a2, a3, a4, ())))
     | false => match idx a0 (IntKind.wrap .i64 (a5 - 1)) with
      | none => none
      | some x3 => match idx a0 a5 with
       | none => none
       | some x4 => match idx a0 a5 with
        | none => none
        | some x5 => match idx (dset a0 (dnat a5) (dget a0 (dnat (IntKind.wrap .i64 (a5 - 1))) ([] : List (Int)))) (IntKind.wrap .i64 (a5 - 1)) with
         | none => none
         | some x6 => some (.inl ((dset (dset a0 (dnat a5) (dget a0 (dnat (IntKind.wrap .i64 (a5 - 1))) ([] : List (Int)))) (dnat (IntKind.wrap .i64 (a5 - 1))) (dget a0 (dnat a5) ([] : List (Int)))), a1, a2, a3, a4, (IntKind.wrap .i64 (a5 - 1)), ()))
 | false => some (.inr (.inl (a0, a1, a2, a3, a4, ())))
abbrev partInsL_i1 : Items := [(.obj 0, .own 43 (.slice (.int .i64))), (.tmp 0, .own' 0), (.tmp 1, .di), (.tmp 2, .di), (.tmp 3, .clo 166 []), (.tmp 9, .di), (.tmp 10, .di)]
abbrev partInsL_o1 : Outs := [(.exit 2, [(.obj 0, .own 43 (.slice (.int .i64))), (.tmp 0, .own' 0), (.tmp 1, .di), (.tmp 2, .di), (.tmp 3, .clo 166 []), (.tmp 9, .di), (.tmp 10, .di)])]
def partInsL_s1 [Lk] : (List (List Int) × Int × Int × Int × Int × Unit) → Option ((List (List Int) × Int × Int × Int × Int × Unit) ⊕ (List (List Int) × Int × Int × Int × Int × Unit) ⊕ Unit) := fun (a0, a1, a2, a3, a4, _) =>
 match (ilt a3 a2) with
 | true => match idx a0 a3 with
  | none => none
  | some x0 => match idx a0 (IntKind.wrap .i64 (a3 - 1)) with
   | none => none
   | some x1 => match with1 ((dget a0 (dnat a3) ([] : List (Int))), (dget a0 (dnat (IntKind.wrap .i64 (a3 - 1))) ([] : List (Int))), ()) with
    | none => none
    | some (y2, _) => match (!(ilt y2 0)) with
     | true => some (.inl (a0, a1, a2, (IntKind.wrap .i64 (a3 + 1)), a4, ()))
     | false => some (.inr (.inl (a0, a1, a2, a3, a4, ())))
 | false => some (.inr (.inl (a0, a1, a2, a3, a4, ())))
abbrev partInsL_i0 : Items := [(.obj 0, .own 43 (.slice (.int .i64))), (.tmp 0, .own' 0), (.tmp 1, .di), (.tmp 2, .di), (.tmp 3, .clo 166 []), (.tmp 9, .di), (.tmp 10, .di)]
abbrev partInsL_o0 : Outs := [(.ret, [(.obj 0, .own 43 (.slice (.int .i64))), (.tmp 8, .dat .bool)]), (.exit 0, [(.obj 0, .own 43 (.slice (.int .i64)))])]
def partInsL_s0 [Lk] : (List (List Int) × Int × Int × Int × Int × Unit) → Option ((List (List Int) × Int × Int × Int × Int × Unit) ⊕ (List (List Int) × Bool × Unit) ⊕ (List (List Int) × Unit) ⊕ Unit) := fun (a0, a1, a2, a3, a4, _) =>
 match (ilt a4 5) with
 | true => match iterL partInsL_s1 many (a0, a1, a2, a3, a4, ()) with
  | none => none
  | some r => match r with
   | .inl (o0, o1, o2, o3, o4, _) => match (ieq o3 o2) with
    | true => some (.inr (.inl (o0, true, ())))
    | false => match (ilt (IntKind.wrap .i64 (o2 - o1)) 50) with
     | true => some (.inr (.inl (o0, false, ())))
     | false => match idx o0 (IntKind.wrap .i64 (o3 - 1)) with
      | none => none
      | some x5 => match idx o0 o3 with
       | none => none
       | some x6 => match idx o0 o3 with
        | none => none
        | some x7 => match idx (dset o0 (dnat o3) (dget o0 (dnat (IntKind.wrap .i64 (o3 - 1))) ([] : List (Int)))) (IntKind.wrap .i64 (o3 - 1)) with
         | none => none
         | some x8 => match (ile 2 (IntKind.wrap .i64 (o3 - o1))) with
          | true => match iterL partInsL_s2 many ((dset (dset o0 (dnat o3) (dget o0 (dnat (IntKind.wrap .i64 (o3 - 1))) ([] : List (Int)))) (dnat (IntKind.wrap .i64 (o3 - 1))) (dget o0 (dnat o3) ([] : List (Int)))), o1, o2, o3, o4, (IntKind.wrap .i64 (o3 - 1)), ()) with
           | none => none
           | some r => match r with
            | .inl (o9, o10, o11, o12, o13, _) => match (ile 2 (IntKind.wrap .i64 (o11 - o12))) with
             | true => match iterL partInsL_s3 many (o9, o10, o11, o12, o13, (IntKind.wrap .i64 (o12 + 1)), ()) with
              | none => none
              | some r => match r with
               | .inl (o14, o15, o16, o17, o18, _) => some (.inl (o14, o15, o16, o17, (IntKind.wrap .i64 (o18 + 1)), ()))
               | .inr _ => none
             | false => some (.inl (o9, o10, o11, o12, (IntKind.wrap .i64 (o13 + 1)), ()))
            | .inr _ => none
          | false => match (ile 2 (IntKind.wrap .i64 (o2 - o3))) with
           | true => match iterL partInsL_s3 many ((dset (dset o0 (dnat o3) (dget o0 (dnat (IntKind.wrap .i64 (o3 - 1))) ([] : List (Int)))) (dnat (IntKind.wrap .i64 (o3 - 1))) (dget o0 (dnat o3) ([] : List (Int)))), o1, o2, o3, o4, (IntKind.wrap .i64 (o3 + 1)), ()) with
            | none => none
            | some r => match r with
             | .inl (o19, o20, o21, o22, o23, _) => some (.inl (o19, o20, o21, o22, (IntKind.wrap .i64 (o23 + 1)), ()))
             | .inr _ => none
           | false => some (.inl ((dset (dset o0 (dnat o3) (dget o0 (dnat (IntKind.wrap .i64 (o3 - 1))) ([] : List (Int)))) (dnat (IntKind.wrap .i64 (o3 - 1))) (dget o0 (dnat o3) ([] : List (Int)))), o1, o2, o3, (IntKind.wrap .i64 (o4 + 1)), ()))
   | .inr _ => none
 | false => some (.inr (.inr (.inl (a0, ()))))
def partInsL_d [Lk] : (List (List Int) × Int × Int × Unit) → Option ((List (List Int) × Bool × Unit)) := fun (a0, a1, a2, _) =>
 match iterL partInsL_s0 many (a0, a1, a2, (IntKind.wrap .i64 (a1 + 1)), 0, ()) with
 | none => none
 | some r => match r with
  | .inl (o0, o1, _) => some (o0, o1, ())
  | .inr r => match r with
   | .inl (o2, _) => some (o2, false, ())
   | .inr _ => none
def partInsL [Lk] := fun v => Lk.f (partInsL_d v)
theorem partInsL_eq v : partInsL v = partInsL_d v := lock_eq _
-- slices.partitionEqualCmpFunc[[]int]
abbrev partEqL_i : Items := [(.tmp 0, .own 43 (.slice (.int .i64))), (.tmp 1, .di), (.tmp 2, .di), (.tmp 3, .di), (.tmp 4, .clo 166 [])]
abbrev partEqL_o : Items := [(.obj 0, .own 43 (.slice (.int .i64))), (.tmp 0, .di)]
abbrev partEqL_r : List RS := [.one]
abbrev partEqL_i2 : Items := [(.obj 0, .own 43 (.slice (.int .i64))), (.tmp 0, .own' 0), (.tmp 1, .di), (.tmp 4, .clo 166 []), (.tmp 11, .di), (.tmp 12, .di)]
abbrev partEqL_o2 : Outs := [(.exit 4, [(.obj 0, .own 43 (.slice (.int .i64))), (.tmp 0, .own' 0), (.tmp 1, .di), (.tmp 4, .clo 166 []), (.tmp 11, .di), (.tmp 12, .di)])]
def partEqL_s2 [Lk] : (List (List Int) × Int × Int × Int × Unit) → Option ((List (List Int) × Int × Int × Int × Unit) ⊕ (List (List Int) × Int × Int × Int × Unit) ⊕ Unit) := fun (a0, a1, a2, a3, _) =>
 match (ile a2 a3) with
 | true => match idx a0 a1 with
  | none => none
  | some x0 => match idx a0 a3 with
   | none => none
   | some x1 => match with1 ((dget a0 (dnat a1) ([] : List (Int))), (dget a0 (dnat a3) ([] : List (Int))), ()) with
    | none => none
    | some (y2, _) => match (ilt y2 0) with
     | true => some (.inl (a0, a1, a2, (IntKind.wrap .i64 (a3 - 1)), ()))
     | false => some (.inr (.inl (a0, a1, a2, a3, ())))
 | false => some (.inr (.inl (a0, a1, a2, a3, ())))
abbrev partEqL_i1 : Items := [(.obj 0, .own 43 (.slice (.int .i64))), (.tmp 0, .own' 0), (.tmp 1, .di), (.tmp 4, .clo 166 []), (.tmp 11, .di), (.tmp 12, .di)]
abbrev partEqL_o1 : Outs := [(.exit 2, [(.obj 0, .own 43 (.slice (.int .i64))), (.tmp 0, .own' 0), (.tmp 1, .di), (.tmp 4, .clo 166 []), (.tmp 11, .di), (.tmp 12, .di)])]
def partEqL_s1 [Lk] : (List (List Int) × Int × Int × Int × Unit) → Option ((List (List Int) × Int × Int × Int × Unit) ⊕ (List (List Int) × Int × Int × Int × Unit) ⊕ Unit) := fun (a0, a1, a2, a3, _) =>
 match (ile a2 a3) with
 | true => match idx a0 a1 with
  | none => none
  | some x0 => match idx a0 a2 with
   | none => none
   | some x1 => match with1 ((dget a0 (dnat a1) ([] : List (Int))), (dget a0 (dnat a2) ([] : List (Int))), ()) with
    | none => none
    | some (y2, _) => match (!(ilt y2 0)) with
     | true => some (.inl (a0, a1, (IntKind.wrap .i64 (a2 + 1)), a3, ()))
     | false => some (.inr (.inl (a0, a1, a2, a3, ())))
 | false => some (.inr (.inl (a0, a1, a2, a3, ())))
abbrev partEqL_i0 : Items := [(.obj 0, .own 43 (.slice (.int .i64))), (.tmp 0, .own' 0), (.tmp 1, .di), (.tmp 4, .clo 166 []), (.tmp 11, .di), (.tmp 12, .di)]
abbrev partEqL_o0 : Outs := [(.exit 0, [(.obj 0, .own 43 (.slice (.int .i64))), (.tmp 11, .di)])]
def partEqL_s0 [Lk] : (List (List Int) × Int × Int × Int × Unit) → Option ((List (List Int) × Int × Int × Int × Unit) ⊕ (List (List Int) × Int × Unit) ⊕ Unit) := fun (a0, a1, a2, a3, _) =>
 match iterL partEqL_s1 many (a0, a1, a2, a3, ()) with
 | none => none
 | some r => match r with
  | .inl (o0, o1, o2, o3, _) => match iterL partEqL_s2 many (o0, o1, o2, o3, ()) with
   | none => none
   | some r => match r with
    | .inl (o4, o5, o6, o7, _) => match (ilt o7 o6) with
     | true => some (.inr (.inl (o4, o6, ())))
     | false => match idx o4 o7 with
      | none => none
      | some x8 => match idx o4 o6 with
       | none => none
       | some x9 => match idx o4 o6 with
        | none => none
        | some x10 => match idx (dset o4 (dnat o6) (dget o4 (dnat o7) ([] : List (Int)))) o7 with
         | none => none
         | some x11 => some (.inl ((dset (dset o4 (dnat o6) (dget o4 (dnat o7) ([] : List (Int)))) (dnat o7) (dget o4 (dnat o6) ([] : List (Int)))), o5, (IntKind.wrap .i64 (o6 + 1)), (IntKind.wrap .i64 (o7 - 1)), ()))
    | .inr _ => none
  | .inr _ => none
def partEqL_d [Lk] : (List (List Int) × Int × Int × Int × Unit) → Option ((List (List Int) × Int × Unit)) := fun (a0, a1, a2, a3, _) =>
 match idx a0 a3 with
 | none => none
 | some x0 => match idx a0 a1 with
  | none => none
  | some x1 => match idx a0 a1 with
   | none => none
   | some x2 => match idx (dset a0 (dnat a1) (dget a0 (dnat a3) ([] : List (Int)))) a3 with
    | none => none
    | some x3 => match iterL partEqL_s0 many ((dset (dset a0 (dnat a1) (dget a0 (dnat a3) ([] : List (Int)))) (dnat a3) (dget a0 (dnat a1) ([] : List (Int)))), a1, (IntKind.wrap .i64 (a1 + 1)), (IntKind.wrap .i64 (a2 - 1)), ()) with
     | none => none
     | some r => match r with
      | .inl (o4, o5, _) => some (o4, o5, ())
      | .inr _ => none
def partEqL [Lk] := fun v => Lk.f (partEqL_d v)
theorem partEqL_eq v : partEqL v = partEqL_d v := lock_eq _
-- slices.partitionCmpFunc[[]int]
abbrev partL_i : Items := [(.tmp 0, .own 43 (.slice (.int .i64))), (.tmp 1, .di), (.tmp 2, .di), (.tmp 3, .di), (.tmp 4, .clo 166 [])]
abbrev partL_o : Items := [(.obj 0, .own 43 (.slice (.int .i64))), (.tmp 0, .di), (.tmp 1, .dat .bool)]
abbrev partL_r : List RS := [.one, .one]
abbrev partL_i4 : Items := [(.obj 0, .own 43 (.slice (.int .i64))), (.tmp 0, .own' 0), (.tmp 1, .di), (.tmp 4, .clo 166 []), (.tmp 12, .di), (.tmp 13, .di)]
abbrev partL_o4 : Outs := [(.exit 8, [(.obj 0, .own 43 (.slice (.int .i64))), (.tmp 0, .own' 0), (.tmp 1, .di), (.tmp 4, .clo 166 []), (.tmp 12, .di), (.tmp 13, .di)])]
def partL_s4 [Lk] : (List (List Int) × Int × Int × Int × Unit) → Option ((List (List Int) × Int × Int × Int × Unit) ⊕ (List (List Int) × Int × Int × Int × Unit) ⊕ Unit) := fun (a0, a1, a2, a3, _) =>
 match (ile a2 a3) with
 | true => match idx a0 a3 with
  | none => none
  | some x0 => match idx a0 a1 with
   | none => none
   | some x1 => match with1 ((dget a0 (dnat a3) ([] : List (Int))), (dget a0 (dnat a1) ([] : List (Int))), ()) with
    | none => none
    | some (y2, _) => match (!(ilt y2 0)) with
     | true => some (.inl (a0, a1, a2, (IntKind.wrap .i64 (a3 - 1)), ()))
     | false => some (.inr (.inl (a0, a1, a2, a3, ())))
 | false => some (.inr (.inl (a0, a1, a2, a3, ())))
abbrev partL_i3 : Items := [(.obj 0, .own 43 (.slice (.int .i64))), (.tmp 0, .own' 0), (.tmp 1, .di), (.tmp 4, .clo 166 []), (.tmp 12, .di), (.tmp 13, .di)]
abbrev partL_o3 : Outs := [(.exit 6, [(.obj 0, .own 43 (.slice (.int .i64))), (.tmp 0, .own' 0), (.tmp 1, .di), (.tmp 4, .clo 166 []), (.tmp 12, .di), (.tmp 13, .di)])]
def partL_s3 [Lk] : (List (List Int) × Int × Int × Int × Unit) → Option ((List (List Int) × Int × Int × Int × Unit) ⊕ (List (List Int) × Int × Int × Int × Unit) ⊕ Unit) := fun (a0, a1, a2, a3, _) =>
 match (ile a2 a3) with
 | true => match idx a0 a2 with
  | none => none
  | some x0 => match idx a0 a1 with
   | none => none
   | some x1 => match with1 ((dget a0 (dnat a2) ([] : List (Int))), (dget a0 (dnat a1) ([] : List (Int))), ()) with
    | none => none
    | some (y2, _) => match (ilt y2 0) with
     | true => some (.inl (a0, a1, (IntKind.wrap .i64 (a2 + 1)), a3, ()))
     | false => some (.inr (.inl (a0, a1, a2, a3, ())))
 | false => some (.inr (.inl (a0, a1, a2, a3, ())))
abbrev partL_i2 : Items := [(.obj 0, .own 43 (.slice (.int .i64))), (.tmp 0, .own' 0), (.tmp 1, .di), (.tmp 4, .clo 166 []), (.tmp 12, .di), (.tmp 13, .di)]
abbrev partL_o2 : Outs := [(.exit 4, [(.obj 0, .own 43 (.slice (.int .i64))), (.tmp 0, .own' 0), (.tmp 1, .di), (.tmp 13, .di)])]
def partL_s2 [Lk] : (List (List Int) × Int × Int × Int × Unit) → Option ((List (List Int) × Int × Int × Int × Unit) ⊕ (List (List Int) × Int × Int × Unit) ⊕ Unit) := fun (a0, a1, a2, a3, _) =>
 match iterL partL_s3 many (a0, a1, a2, a3, ()) with
 | none => none
 | some r => match r with
  | .inl (o0, o1, o2, o3, _) => match iterL partL_s4 many (o0, o1, o2, o3, ()) with
   | none => none
   | some r => match r with
    | .inl (o4, o5, o6, o7, _) => match (ilt o7 o6) with
     | true => some (.inr (.inl (o4, o5, o7, ())))
     | false => match idx o4 o7 with
      | none => none
      | some x8 => match idx o4 o6 with
       | none => none
       | some x9 => match idx o4 o6 with
        | none => none
        | some x10 => match idx (dset o4 (dnat o6) (dget o4 (dnat o7) ([] : List (Int)))) o7 with
         | none => none
         | some x11 => some (.inl ((dset (dset o4 (dnat o6) (dget o4 (dnat o7) ([] : List (Int)))) (dnat o7) (dget o4 (dnat o6) ([] : List (Int)))), o5, (IntKind.wrap .i64 (o6 + 1)), (IntKind.wrap .i64 (o7 - 1)), ()))
    | .inr _ => none
  | .inr _ => none
abbrev partL_i1 : Items := [(.obj 0, .own 43 (.slice (.int .i64))), (.tmp 0, .own' 0), (.tmp 1, .di), (.tmp 4, .clo 166 []), (.tmp 12, .di), (.tmp 13, .di)]
abbrev partL_o1 : Outs := [(.exit 2, [(.obj 0, .own 43 (.slice (.int .i64))), (.tmp 0, .own' 0), (.tmp 1, .di), (.tmp 4, .clo 166 []), (.tmp 12, .di), (.tmp 13, .di)])]
def partL_s1 [Lk] : (List (List Int) × Int × Int × Int × Unit) → Option ((List (List Int) × Int × Int × Int × Unit) ⊕ (List (List Int) × Int × Int × Int × Unit) ⊕ Unit) := fun (a0, a1, a2, a3, _) =>
 match (ile a2 a3) with
 | true => match idx a0 a3 with
  | none => none
  | some x0 => match idx a0 a1 with
   | none => none
   | some x1 => match with1 ((dget a0 (dnat a3) ([] : List (Int))), (dget a0 (dnat a1) ([] : List (Int))), ()) with
    | none => none
    | some (y2, _) => match (!(ilt y2 0)) with
     | true => some (.inl (a0, a1, a2, (IntKind.wrap .i64 (a3 - 1)), ()))
     | false => some (.inr (.inl (a0, a1, a2, a3, ())))
 | false => some (.inr (.inl (a0, a1, a2, a3, ())))
abbrev partL_i0 : Items := [(.obj 0, .own 43 (.slice (.int .i64))), (.tmp 0, .own' 0), (.tmp 1, .di), (.tmp 4, .clo 166 []), (.tmp 12, .di), (.tmp 13, .di)]
abbrev partL_o0 : Outs := [(.exit 0, [(.obj 0, .own 43 (.slice (.int .i64))), (.tmp 0, .own' 0), (.tmp 1, .di), (.tmp 4, .clo 166 []), (.tmp 12, .di), (.tmp 13, .di)])]
def partL_s0 [Lk] : (List (List Int) × Int × Int × Int × Unit) → Option ((List (List Int) × Int × Int × Int × Unit) ⊕ (List (List Int) × Int × Int × Int × Unit) ⊕ Unit) := fun (a0, a1, a2, a3, _) =>
 match (ile a2 a3) with
 | true => match idx a0 a2 with
  | none => none
  | some x0 => match idx a0 a1 with
   | none => none
   | some x1 => match with1 ((dget a0 (dnat a2) ([] : List (Int))), (dget a0 (dnat a1) ([] : List (Int))), ()) with
    | none => none
    | some (y2, _) => match (ilt y2 0) with
     | true => some (.inl (a0, a1, (IntKind.wrap .i64 (a2 + 1)), a3, ()))
     | false => some (.inr (.inl (a0, a1, a2, a3, ())))
 | false => some (.inr (.inl (a0, a1, a2, a3, ())))
def partL_d [Lk] : (List (List Int) × Int × Int × Int × Unit) → Option ((List (List Int) × Int × Bool × Unit)) := fun (a0, a1, a2, a3, _) =>
 match idx a0 a3 with
 | none => none
 | some x0 => match idx a0 a1 with
  | none => none
  | some x1 => match idx a0 a1 with
   | none => none
   | some x2 => match idx (dset a0 (dnat a1) (dget a0 (dnat a3) ([] : List (Int)))) a3 with
    | none => none
    | some x3 => match iterL partL_s0 many ((dset (dset a0 (dnat a1) (dget a0 (dnat a3) ([] : List (Int)))) (dnat a3) (dget a0 (dnat a1) ([] : List (Int)))), a1, (IntKind.wrap .i64 (a1 + 1)), (IntKind.wrap .i64 (a2 - 1)), ()) with
     | none => none
     | some r => match r with
      | .inl (o4, o5, o6, o7, _) => match iterL partL_s1 many (o4, o5, o6, o7, ()) with
       | none => none
       | some r => match r with
        | .inl (o8, o9, o10, o11, _) => match (ilt o11 o10) with
         | true => match idx o8 o9 with
          | none => none
          | some x12 => match idx o8 o11 with
           | none => none
           | some x13 => match idx o8 o11 with
            | none => none
            | some x14 => match idx (dset o8 (dnat o11) (dget o8 (dnat o9) ([] : List (Int)))) o9 with
             | none => none
             | some x15 => some ((dset (dset o8 (dnat o11) (dget o8 (dnat o9) ([] : List (Int)))) (dnat o9) (dget o8 (dnat o11) ([] : List (Int)))), o11, true, ())
         | false => match idx o8 o11 with
          | none => none
          | some x16 => match idx o8 o10 with
           | none => none
           | some x17 => match idx o8 o10 with
            | none => none
            | some x18 => match idx (dset o8 (dnat o10) (dget o8 (dnat o11) ([] : List (Int)))) o11 with
             | none => none
             | some x19 => match iterL partL_s2 many ((dset (dset o8 (dnat o10) (dget o8 (dnat o11) ([] : List (Int)))) (dnat o11) (dget o8 (dnat o10) ([] : List (Int)))), o9, (IntKind.wrap .i64 (o10 + 1)), (IntKind.wrap .i64 (o11 - 1)), ()) with
              | none => none
              | some r => match r with
               | .inl (o20, o21, o22, _) => match idx o20 o21 with
                | none => none
                | some x23 => match idx o20 o22 with
                 | none => none
                 | some x24 => match idx o20 o22 with
                  | none => none
                  | some x25 => match idx (dset o20 (dnat o22) (dget o20 (dnat o21) ([] : List (Int)))) o21 with
                   | none => none
                   | some x26 => some ((dset (dset o20 (dnat o22) (dget o20 (dnat o21) ([] : List (Int)))) (dnat o21) (dget o20 (dnat o22) ([] : List (Int)))), o22, false, ())
               | .inr _ => none
        | .inr _ => none
      | .inr _ => none
def partL [Lk] := fun v => Lk.f (partL_d v)
theorem partL_eq v : partL v = partL_d v := lock_eq _
-- slices.pdqsortCmpFunc[[]int]
abbrev pdqL_i : Items := [(.tmp 0, .own 43 (.slice (.int .i64))), (.tmp 1, .di), (.tmp 2, .di), (.tmp 3, .di), (.tmp 4, .clo 166 [])]
abbrev pdqL_o : Items := [(.obj 0, .own 43 (.slice (.int .i64)))]
abbrev pdqL_r : List RS := []
abbrev pdqL_i0 : Items := [(.obj 0, .own 43 (.slice (.int .i64))), (.tmp 0, .own' 0), (.tmp 1, .di), (.tmp 2, .di), (.tmp 3, .di), (.tmp 4, .clo 166 []), (.tmp 10, .dat .bool), (.tmp 11, .dat .bool)]
abbrev pdqL_o0 : Outs := [(.ret, [(.obj 0, .own 43 (.slice (.int .i64)))])]
def pdqL_t [Lk] (self : (List (List Int) × Int × Int × Int × Unit) → Option ((List (List Int) × Unit))) (y7 : List (List Int)) (a1 a2 p l : Int) (a4 a5 : Bool) : Option ((List (List Int) × Int × Int × Int × Bool × Bool × Unit) ⊕ (List (List Int) × Unit) ⊕ Unit) :=
 match (ilt 0 a1) with
 | true => match idx y7 (IntKind.wrap .i64 (a1 - 1)) with
  | none => none
  | some x9 => match idx y7 p with
   | none => none
   | some x10 => match with1 ((dget y7 (dnat (IntKind.wrap .i64 (a1 - 1))) ([] : List (Int))), (dget y7 (dnat p) ([] : List (Int))), ()) with
    | none => none
    | some (y11, _) => match (!(ilt y11 0)) with
     | true => match partEqL (y7, a1, a2, p, ()) with
      | none => none
      | some (y12, y13, _) => some (.inl (y12, y13, a2, l, a4, a5, ()))
     | false => match partL (y7, a1, a2, p, ()) with
      | none => none
      | some (y14, y15, y16, _) => match quo? .i64 (IntKind.wrap .i64 (a2 - a1)) 8 with
       | none => none
       | some x17 => match (ilt (IntKind.wrap .i64 (y15 - a1)) (IntKind.wrap .i64 (a2 - y15))) with
        | true => match self (y14, a1, y15, l, ()) with
         | none => none
         | some (y18, _) => some (.inl (y18, (IntKind.wrap .i64 (y15 + 1)), a2, l, (ile x17 (IntKind.wrap .i64 (y15 - a1))), y16, ()))
        | false => match self (y14, (IntKind.wrap .i64 (y15 + 1)), a2, l, ()) with
         | none => none
         | some (y19, _) => some (.inl (y19, a1, y15, l, (ile x17 (IntKind.wrap .i64 (a2 - y15))), y16, ()))
 | false => match partL (y7, a1, a2, p, ()) with
  | none => none
  | some (y20, y21, y22, _) => match quo? .i64 (IntKind.wrap .i64 (a2 - a1)) 8 with
   | none => none
   | some x23 => match (ilt (IntKind.wrap .i64 (y21 - a1)) (IntKind.wrap .i64 (a2 - y21))) with
    | true => match self (y20, a1, y21, l, ()) with
     | none => none
     | some (y24, _) => some (.inl (y24, (IntKind.wrap .i64 (y21 + 1)), a2, l, (ile x23 (IntKind.wrap .i64 (y21 - a1))), y22, ()))
    | false => match self (y20, (IntKind.wrap .i64 (y21 + 1)), a2, l, ()) with
     | none => none
     | some (y25, _) => some (.inl (y25, a1, y21, l, (ile x23 (IntKind.wrap .i64 (a2 - y21))), y22, ()))
def pdqL_e [Lk] (self : (List (List Int) × Int × Int × Int × Unit) → Option ((List (List Int) × Unit))) (y6 : List (List Int)) (a1 a2 p h l : Int) (a4 a5 : Bool) : Option ((List (List Int) × Int × Int × Int × Bool × Bool × Unit) ⊕ (List (List Int) × Unit) ⊕ Unit) :=
 match a4 with
 | true => match a5 with
  | true => match (ieq h 1) with
   | true => match partInsL (y6, a1, a2, ()) with
    | none => none
    | some (y7, y8, _) => match y8 with
     | true => some (.inr (.inl (y7, ())))
     | false => pdqL_t self y7 a1 a2 p l a4 a5
   | false => pdqL_t self y6 a1 a2 p l a4 a5
  | false => pdqL_t self y6 a1 a2 p l a4 a5
 | false => pdqL_t self y6 a1 a2 p l a4 a5
def pdqL_m [Lk] (self : (List (List Int) × Int × Int × Int × Unit) → Option ((List (List Int) × Unit))) (y2 : List (List Int)) (a1 a2 l : Int) (a4 a5 : Bool) : Option ((List (List Int) × Int × Int × Int × Bool × Bool × Unit) ⊕ (List (List Int) × Unit) ⊕ Unit) :=
 match pivotL (y2, a1, a2, ()) with
 | none => none
 | some (y3, y4, y5, _) => match (ieq y5 2) with
  | true => match revL (y3, a1, a2, ()) with
   | none => none
   | some (y6, _) => pdqL_e self y6 a1 a2 (IntKind.wrap .i64 ((IntKind.wrap .i64 (a2 - 1)) - (IntKind.wrap .i64 (y4 - a1)))) 1 l a4 a5
  | false => pdqL_e self y3 a1 a2 y4 y5 l a4 a5
def pdqL_s0 [Lk] (self : (List (List Int) × Int × Int × Int × Unit) → Option ((List (List Int) × Unit))) : (List (List Int) × Int × Int × Int × Bool × Bool × Unit) → Option ((List (List Int) × Int × Int × Int × Bool × Bool × Unit) ⊕ (List (List Int) × Unit) ⊕ Unit) := fun (a0, a1, a2, a3, a4, a5, _) =>
 match (ile (IntKind.wrap .i64 (a2 - a1)) 12) with
 | true => match insL (a0, a1, a2, ()) with
  | none => none
  | some (y0, _) => some (.inr (.inl (y0, ())))
 | false => match (ieq a3 0) with
  | true => match heapL (a0, a1, a2, ()) with
   | none => none
   | some (y1, _) => some (.inr (.inl (y1, ())))
  | false => match (!a4) with
   | true => match breakL (a0, a1, a2, ()) with
    | none => none
    | some (y2, _) => pdqL_m self y2 a1 a2 (IntKind.wrap .i64 (a3 - 1)) a4 a5
   | false => pdqL_m self a0 a1 a2 a3 a4 a5
def pdqL_d [Lk] (self : (List (List Int) × Int × Int × Int × Unit) → Option ((List (List Int) × Unit))) : (List (List Int) × Int × Int × Int × Unit) → Option ((List (List Int) × Unit)) := fun (a0, a1, a2, a3, _) =>
 match iterL (pdqL_s0 self) many (a0, a1, a2, a3, true, true, ()) with
 | none => none
 | some r => match r with
  | .inl (o0, _) => some (o0, ())
  | .inr _ => none
def pdqL_f [Lk] : Nat → (List (List Int) × Int × Int × Int × Unit) → Option ((List (List Int) × Unit))
 | 0, _ => none
 | n + 1, v => pdqL_d (pdqL_f n) v
def pdqL [Lk] := fun v => Lk.f (pdqL_f 100 v)
theorem pdqL_eq v : pdqL v = pdqL_f 100 v := lock_eq _
-- slices.SortFunc[[][]int,[]int]
abbrev sortL_i : Items := [(.tmp 0, .own 43 (.slice (.int .i64))), (.tmp 1, .clo 166 [])]
abbrev sortL_o : Items := [(.obj 0, .own 43 (.slice (.int .i64)))]
abbrev sortL_r : List RS := []
def sortL_d [Lk] : (List (List Int) × Unit) → Option ((List (List Int) × Unit)) := fun (a0, _) =>
 match bitsLen ((IntKind.wrap .u64 (dlen a0)), ()) with
 | none => none
 | some (y0, _) => match pdqL (a0, 0, (dlen a0), y0, ()) with
  | none => none
  | some (y1, _) => some (y1, ())
def sortL [Lk] := fun v => Lk.f (sortL_d v)
theorem sortL_eq v : sortL v = sortL_d v := lock_eq _
-- archipelago/tour.with
abbrev twith_i : Items := [(.tmp 0, .dat (.prod (.int .i64) (.prod (.slice (.slice (.int .i64))) .unit))), (.tmp 1, .dat (.slice (.int .i64))), (.tmp 2, .dat (.slice (.slice (.int .i64))))]
abbrev twith_o : Items := [(.tmp 0, .di), (.tmp 1, .own 43 (.slice (.int .i64)))]
abbrev twith_r : List RS := [.agg 2]
abbrev twith_i1 : Items := [(.tmp 3, .box 2), (.cell 0 0, .di), (.cell 0 1, .dat (.slice (.slice (.int .i64)))), (.tmp 6, .box 2), (.cell 1 0, .di), (.cell 1 1, .nil (.slice (.int .i64))), (.tmp 7, .own 43 (.slice (.int .i64))), (.tmp 29, .dat (.slice (.slice (.int .i64)))), (.tmp 30, .di), (.tmp 31, .di)]
abbrev twith_o1 : Outs := [(.exit 2, [(.tmp 3, .box 2), (.cell 0 0, .di), (.cell 0 1, .dat (.slice (.slice (.int .i64)))), (.tmp 6, .box 2), (.cell 1 0, .di), (.cell 1 1, .nil (.slice (.int .i64))), (.tmp 7, .own 43 (.slice (.int .i64)))])]
def twith_s1 [Lk] : (Int × List (List Int) × Int × List (List Int) × List (List Int) × Int × Int × Unit) → Option ((Int × List (List Int) × Int × List (List Int) × List (List Int) × Int × Int × Unit) ⊕ (Int × List (List Int) × Int × List (List Int) × Unit) ⊕ Unit) := fun (a0, a1, a2, a3, a4, a5, a6, _) =>
 match (ilt a6 a5) with
 | true => match idx a4 a6 with
  | none => none
  | some x0 => match rplain (x0, ()) with
   | none => none
   | some (y1, _) => match (fits ((dlen a3) + (dlen ([y1] : List (List Int))))) with
    | true => some (.inl (a0, a1, a2, (dapp a3 ([y1] : List (List Int))), a4, a5, (IntKind.wrap .i64 (a6 + 1)), ()))
    | false => none
 | false => some (.inr (.inl (a0, a1, a2, a3, ())))
abbrev twith_i0 : Items := [(.tmp 1, .dat (.slice (.int .i64))), (.tmp 2, .dat (.slice (.slice (.int .i64)))), (.tmp 3, .box 2), (.cell 0 0, .di), (.cell 0 1, .dat (.slice (.slice (.int .i64)))), (.tmp 6, .box 2), (.cell 1 0, .di), (.cell 1 1, .nil (.slice (.int .i64))), (.tmp 7, .own 43 (.slice (.int .i64))), (.tmp 13, .dat (.slice (.slice (.int .i64)))), (.tmp 14, .di), (.tmp 15, .di)]
abbrev twith_o0 : Outs := [(.exit 0, [(.tmp 2, .dat (.slice (.slice (.int .i64)))), (.tmp 3, .box 2), (.cell 0 0, .di), (.cell 0 1, .dat (.slice (.slice (.int .i64)))), (.tmp 6, .box 2), (.cell 1 0, .di), (.cell 1 1, .nil (.slice (.int .i64))), (.tmp 7, .own 43 (.slice (.int .i64)))])]
def twith_s0 [Lk] : (List Int × List (List Int) × Int × List (List Int) × Int × List (List Int) × List (List Int) × Int × Int × Unit) → Option ((List Int × List (List Int) × Int × List (List Int) × Int × List (List Int) × List (List Int) × Int × Int × Unit) ⊕ (List (List Int) × Int × List (List Int) × Int × List (List Int) × Unit) ⊕ Unit) := fun (a0, a1, a2, a3, a4, a5, a6, a7, a8, _) =>
 match (ilt a8 a7) with
 | true => match idx a6 a8 with
  | none => none
  | some x0 => match containsI (a0, a8, ()) with
   | none => none
   | some (y1, _) => match (!y1) with
    | true => match (fits ((dlen a5) + (dlen ([x0] : List (List Int))))) with
     | true => some (.inl (a0, a1, a2, a3, a4, (dapp a5 ([x0] : List (List Int))), a6, a7, (IntKind.wrap .i64 (a8 + 1)), ()))
     | false => none
    | false => some (.inl (a0, a1, a2, a3, a4, a5, a6, a7, (IntKind.wrap .i64 (a8 + 1)), ()))
 | false => some (.inr (.inl (a1, a2, a3, a4, a5, ())))
def twith_d [Lk] : ((Int × (List (List Int)) × Unit) × List Int × List (List Int) × Unit) → Option ((Int × List (List Int) × Unit)) := fun (a0, a1, a2, _) =>
 match iterL twith_s0 many (a1, a2, a0.1, a0.2.1, 0, ([] : List (List Int)), a0.2.1, (dlen a0.2.1), 0, ()) with
 | none => none
 | some r => match r with
  | .inl (o0, o1, o2, o3, o4, _) => match iterL twith_s1 many (o1, o2, o3, o4, o0, (dlen o0), 0, ()) with
   | none => none
   | some r => match r with
    | .inl (o5, o6, o7, o8, _) => match sortL (o8, ()) with
     | none => none
     | some (y9, _) => some (o5, y9, ())
    | .inr _ => none
  | .inr _ => none
def twith [Lk] := fun v => Lk.f (twith_d v)
theorem twith_eq v : twith v = twith_d v := lock_eq _
-- archipelago/tour.Link
abbrev tlink_i : Items := [(.tmp 0, .dat (.prod (.int .i64) (.prod (.slice (.slice (.int .i64))) .unit))), (.tmp 1, .di), (.tmp 2, .di)]
abbrev tlink_o : Items := [(.tmp 0, .di), (.tmp 1, .dat (.slice (.slice (.int .i64)))), (.tmp 2, .di)]
abbrev tlink_r : List RS := [.agg 2, .one]
def tlink_d [Lk] : ((Int × (List (List Int)) × Unit) × Int × Int × Unit) → Option ((Int × List (List Int) × Int × Unit)) := fun (a0, a1, a2, _) =>
 match asked ((a0.1, (a0.2.1, ())), a1, a2, ()) with
 | none => none
 | some (y0, _) => match (!(ieq y0 0)) with
  | true => some (a0.1, a0.2.1, y0, ())
  | false => match tplace ((a0.1, (a0.2.1, ())), a1, ()) with
   | none => none
   | some (y1, _) => match tplace ((a0.1, (a0.2.1, ())), a2, ()) with
    | none => none
    | some (y2, _) => match (ieq y1 y2) with
     | true => some (a0.1, a0.2.1, 5, ())
     | false => match idx a0.2.1 y1 with
      | none => none
      | some x3 => match rfrom (x3, a1, ()) with
       | none => none
       | some (y4, y5, _) => match idx a0.2.1 y2 with
        | none => none
        | some x6 => match rfrom (x6, a2, ()) with
         | none => none
         | some (y7, y8, _) => match subl y4 0 1 with
          | none => none
          | some x9 => match tarc (a0.1, a1, a2, ()) with
           | none => none
           | some (y10, _) => match tarc (a0.1, a2, a1, ()) with
            | none => none
            | some (y11, _) => match subl y4 1 (dlen y4) with
             | none => none
             | some x12 => match concatI (([(dcut 0 (dnat (dlen x9)) y4), ([y10] : List (Int)), y7, ([y11] : List (Int)), (dcut 1 (dnat (dlen x12)) y4)] : List (List Int)), ()) with
              | none => none
              | some (y13, _) => match twith ((a0.1, (a0.2.1, ())), ([y1, y2] : List (Int)), ([y13] : List (List Int)), ()) with
               | none => none
               | some (y14, y15, _) => some (y14, y15, 0, ())
def tlink [Lk] := fun v => Lk.f (tlink_d v)
theorem tlink_eq v : tlink v = tlink_d v := lock_eq _
end
end Go.Pev
end
section
namespace Go.Pev
set_option maxRecDepth 100000
noncomputable section
attribute [local irreducible] fitsR fitsIR idxR sublR iltR ileR ieqR quoR remR shlR shrR cloneR iterO many IntKind.wrap dlen dset dget dapp dtake dcut drep dnat dclear imin imax lookupM storeM
-- slices.IndexFunc[[]int,int]
abbrev idxFuncI_there_i : Items := [(.tmp 0, .dat (.slice (.int .i64))), (.cap 1 0, .box 2), (.cell 0 0, .di), (.cell 0 1, .dat (.slice (.slice (.int .i64)))), (.tmp 1, .clo 154 [(0, 0)])]
abbrev idxFuncI_there_o : Items := [(.obj 0, .box 2), (.cell 0 0, .di), (.cell 0 1, .dat (.slice (.slice (.int .i64)))), (.tmp 0, .di)]
abbrev idxFuncI_there_r : List RS := [.one]
abbrev idxFuncI_there_i0 : Items := [(.obj 0, .box 2), (.cell 0 0, .di), (.cell 0 1, .dat (.slice (.slice (.int .i64)))), (.tmp 0, .dat (.slice (.int .i64))), (.tmp 1, .clo 154 [(0, 0)]), (.tmp 7, .di), (.tmp 8, .di)]
abbrev idxFuncI_there_o0 : Outs := [(.ret, [(.obj 0, .box 2), (.cell 0 0, .di), (.cell 0 1, .dat (.slice (.slice (.int .i64)))), (.tmp 4, .di)]), (.exit 0, [(.obj 0, .box 2), (.cell 0 0, .di), (.cell 0 1, .dat (.slice (.slice (.int .i64))))])]
def idxFuncI_there_s0 [Lk] : (Int × List (List Int) × List Int × Int × Int × Unit) → Option ((Int × List (List Int) × List Int × Int × Int × Unit) ⊕ (Int × List (List Int) × Int × Unit) ⊕ (Int × List (List Int) × Unit) ⊕ Unit) := fun (a0, a1, a2, a3, a4, _) =>
 match (ilt a4 a3) with
 | true => match idx a2 a4 with
  | none => none
  | some x0 => match (ilt x0 0) with
   | true => some (.inr (.inl (a0, a1, a4, ())))
   | false => match (ile a0 x0) with
    | true => some (.inr (.inl (a0, a1, a4, ())))
    | false => some (.inl (a0, a1, a2, a3, (IntKind.wrap .i64 (a4 + 1)), ()))
 | false => some (.inr (.inr (.inl (a0, a1, ()))))
def idxFuncI_there_d [Lk] : (List Int × Int × List (List Int) × Unit) → Option ((Int × List (List Int) × Int × Unit)) := fun (a0, a1, a2, _) =>
 match iterL idxFuncI_there_s0 many (a1, a2, a0, (dlen a0), 0, ()) with
 | none => none
 | some r => match r with
  | .inl (o0, o1, o2, _) => some (o0, o1, o2, ())
  | .inr r => match r with
   | .inl (o3, o4, _) => some (o3, o4, (-1 : Int), ())
   | .inr _ => none
def idxFuncI_there [Lk] := fun v => Lk.f (idxFuncI_there_d v)
theorem idxFuncI_there_eq v : idxFuncI_there v = idxFuncI_there_d v := lock_eq _
-- slices.ContainsFunc[[]int,int]
abbrev contFuncI_there_i : Items := [(.tmp 0, .dat (.slice (.int .i64))), (.cap 1 0, .box 2), (.cell 0 0, .di), (.cell 0 1, .dat (.slice (.slice (.int .i64)))), (.tmp 1, .clo 154 [(0, 0)])]
abbrev contFuncI_there_o : Items := [(.obj 0, .box 2), (.cell 0 0, .di), (.cell 0 1, .dat (.slice (.slice (.int .i64)))), (.tmp 0, .dat .bool)]
abbrev contFuncI_there_r : List RS := [.one]
def contFuncI_there_d [Lk] : (List Int × Int × List (List Int) × Unit) → Option ((Int × List (List Int) × Bool × Unit)) := fun (a0, a1, a2, _) =>
 match idxFuncI_there (a0, a1, a2, ()) with
 | none => none
 | some (y0, y1, y2, _) => some (y0, y1, (ile 0 y2), ())
def contFuncI_there [Lk] := fun v => Lk.f (contFuncI_there_d v)
theorem contFuncI_there_eq v : contFuncI_there v = contFuncI_there_d v := lock_eq _
-- archipelago/forest.there
abbrev fthere_i : Items := [(.tmp 0, .dat (.prod (.int .i64) (.prod (.slice (.slice (.int .i64))) .unit))), (.tmp 1, .dat (.slice (.int .i64)))]
abbrev fthere_o : Items := [(.tmp 0, .di)]
abbrev fthere_r : List RS := [.one]
def fthere_d [Lk] : ((Int × (List (List Int)) × Unit) × List Int × Unit) → Option ((Int × Unit)) := fun (a0, a1, _) =>
 match tright ((a0.1, (a0.2.1, ())), ()) with
 | none => none
 | some (y0, _) => match (!y0) with
  | true => some (1, ())
  | false => match contFuncI_there (a1, a0.1, a0.2.1, ()) with
   | none => none
   | some (y1, y2, y3, _) => match y3 with
    | true => some (10, ())
    | false => some (0, ())
def fthere [Lk] := fun v => Lk.f (fthere_d v)
theorem fthere_eq v : fthere v = fthere_d v := lock_eq _
-- archipelago/forest.ends
abbrev ends_i : Items := [(.tmp 0, .dat (.slice (.prod (.int .i64) (.prod (.int .i64) .unit))))]
abbrev ends_o : Items := [(.tmp 0, .own 3 (.int .i64))]
abbrev ends_r : List RS := [.one]
abbrev ends_i0 : Items := [(.tmp 3, .own 3 (.int .i64)), (.tmp 6, .dat (.slice (.prod (.int .i64) (.prod (.int .i64) .unit)))), (.tmp 7, .di), (.tmp 8, .di)]
abbrev ends_o0 : Outs := [(.exit 0, [(.tmp 3, .own 3 (.int .i64))])]
def ends_s0 [Lk] : (List Int × List (Int × Int × Unit) × Int × Int × Unit) → Option ((List Int × List (Int × Int × Unit) × Int × Int × Unit) ⊕ (List Int × Unit) ⊕ Unit) := fun (a0, a1, a2, a3, _) =>
 match (ilt a3 a2) with
 | true => match idx a1 a3 with
  | none => none
  | some x0 => match (fits ((dlen a0) + (dlen ([x0.1, x0.2.1] : List (Int))))) with
   | true => some (.inl ((dapp a0 ([x0.1, x0.2.1] : List (Int))), a1, a2, (IntKind.wrap .i64 (a3 + 1)), ()))
   | false => none
 | false => some (.inr (.inl (a0, ())))
def ends_d [Lk] : (List (Int × Int × Unit) × Unit) → Option ((List Int × Unit)) := fun (a0, _) =>
 match iterL ends_s0 many (([] : List (Int)), a0, (dlen a0), 0, ()) with
 | none => none
 | some r => match r with
  | .inl (o0, _) => some (o0, ())
  | .inr _ => none
def ends [Lk] := fun v => Lk.f (ends_d v)
theorem ends_eq v : ends v = ends_d v := lock_eq _
-- archipelago/forest.each
abbrev eachLink_i : Items := [(.tmp 0, .dat (.prod (.int .i64) (.prod (.slice (.slice (.int .i64))) .unit))), (.tmp 1, .dat (.slice (.prod (.int .i64) (.prod (.int .i64) .unit)))), (.tmp 2, .clo 124 [])]
abbrev eachLink_o : Items := [(.tmp 0, .dat (.prod (.int .i64) (.prod (.slice (.slice (.int .i64))) .unit))), (.tmp 1, .own 4 .bool), (.tmp 2, .di)]
abbrev eachLink_r : List RS := [.one, .one, .one]
abbrev eachLink_i0 : Items := [(.tmp 2, .clo 124 []), (.tmp 3, .box 2), (.cell 0 0, .di), (.cell 0 1, .dat (.slice (.slice (.int .i64)))), (.tmp 6, .box 2), (.cell 1 0, .di), (.cell 1 1, .nil (.slice (.int .i64))), (.tmp 10, .own 4 .bool), (.tmp 23, .dat (.slice (.prod (.int .i64) (.prod (.int .i64) .unit)))), (.tmp 24, .di), (.tmp 25, .di)]
abbrev eachLink_o0 : Outs := [(.exit 0, [(.tmp 3, .box 2), (.cell 0 0, .di), (.cell 0 1, .dat (.slice (.slice (.int .i64)))), (.tmp 6, .box 2), (.cell 1 0, .di), (.cell 1 1, .nil (.slice (.int .i64))), (.tmp 10, .own 4 .bool)])]
def eachLink_s0 [Lk] : (Int × List (List Int) × Int × List Bool × List (Int × Int × Unit) × Int × Int × Unit) → Option ((Int × List (List Int) × Int × List Bool × List (Int × Int × Unit) × Int × Int × Unit) ⊕ (Int × List (List Int) × Int × List Bool × Unit) ⊕ Unit) := fun (a0, a1, a2, a3, a4, a5, a6, _) =>
 match (ilt a6 a5) with
 | true => match idx a4 a6 with
  | none => none
  | some x0 => match tlink ((a0, (a1, ())), x0.1, x0.2.1, ()) with
   | none => none
   | some (y1, y2, y3, _) => match (fits ((dlen a3) + (dlen ([(ieq y3 0)] : List (Bool))))) with
    | true => some (.inl (y1, y2, a2, (dapp a3 ([(ieq y3 0)] : List (Bool))), a4, a5, (IntKind.wrap .i64 (a6 + 1)), ()))
    | false => none
 | false => some (.inr (.inl (a0, a1, a2, a3, ())))
def eachLink_d [Lk] : ((Int × (List (List Int)) × Unit) × List (Int × Int × Unit) × Unit) → Option (((Int × (List (List Int)) × Unit) × List Bool × Int × Unit)) := fun (a0, a1, _) =>
 match ends (a1, ()) with
 | none => none
 | some (y0, _) => match fthere ((a0.1, (a0.2.1, ())), y0, ()) with
  | none => none
  | some (y1, _) => match (!(ieq y1 0)) with
   | true => some ((a0.1, (a0.2.1, ())), ([] : List (Bool)), y1, ())
   | false => match iterL eachLink_s0 many (a0.1, a0.2.1, 0, ([] : List (Bool)), a1, (dlen a1), 0, ()) with
    | none => none
    | some r => match r with
     | .inl (o2, o3, o4, o5, _) => some ((o2, (o3, ())), o5, 0, ())
     | .inr _ => none
def eachLink [Lk] := fun v => Lk.f (eachLink_d v)
theorem eachLink_eq v : eachLink v = eachLink_d v := lock_eq _
-- archipelago/forest.Links
abbrev flinks_i : Items := [(.tmp 0, .dat (.prod (.int .i64) (.prod (.slice (.slice (.int .i64))) .unit))), (.tmp 1, .dat (.slice (.prod (.int .i64) (.prod (.int .i64) .unit))))]
abbrev flinks_o : Items := [(.tmp 0, .dat (.prod (.int .i64) (.prod (.slice (.slice (.int .i64))) .unit))), (.tmp 1, .own 4 .bool), (.tmp 2, .di)]
abbrev flinks_r : List RS := [.one, .one, .one]
def flinks_d [Lk] : ((Int × (List (List Int)) × Unit) × List (Int × Int × Unit) × Unit) → Option (((Int × (List (List Int)) × Unit) × List Bool × Int × Unit)) := fun (a0, a1, _) =>
 match eachLink ((a0.1, (a0.2.1, ())), a1, ()) with
 | none => none
 | some (y0, y1, y2, _) => some ((y0.1, (y0.2.1, ())), y1, y2, ())
def flinks [Lk] := fun v => Lk.f (flinks_d v)
theorem flinks_eq v : flinks v = flinks_d v := lock_eq _
-- archipelago/forest.Of
abbrev fof_i : Items := [(.tmp 0, .di), (.tmp 1, .dat (.slice (.prod (.int .i64) (.prod (.int .i64) .unit))))]
abbrev fof_o : Items := [(.tmp 0, .dat (.prod (.int .i64) (.prod (.slice (.slice (.int .i64))) .unit))), (.tmp 1, .di)]
abbrev fof_r : List RS := [.one, .one]
def fof_d [Lk] : (Int × List (Int × Int × Unit) × Unit) → Option (((Int × (List (List Int)) × Unit) × Int × Unit)) := fun (a0, a1, _) =>
 match tmake (a0, ()) with
 | none => none
 | some (y0, y1, y2, _) => match (!(ieq y2 0)) with
  | true => some ((0, (([] : List (List Int)), ())), y2, ())
  | false => match flinks ((y0, (y1, ())), a1, ()) with
   | none => none
   | some (y3, y4, y5, _) => match (!(ieq y5 0)) with
    | true => some ((0, (([] : List (List Int)), ())), y5, ())
    | false => some ((y3.1, (y3.2.1, ())), 0, ())
def fof [Lk] := fun v => Lk.f (fof_d v)
theorem fof_eq v : fof v = fof_d v := lock_eq _
-- cmp.Or[int]
abbrev orI_i : Items := [(.tmp 0, .dat (.slice (.int .i64)))]
abbrev orI_o : Items := [(.tmp 0, .di)]
abbrev orI_r : List RS := [.one]
abbrev orI_i0 : Items := [(.tmp 3, .di), (.tmp 6, .dat (.slice (.int .i64))), (.tmp 7, .di), (.tmp 8, .di)]
abbrev orI_o0 : Outs := [(.ret, [(.tmp 2, .di)]), (.exit 0, [(.tmp 3, .di)])]
def orI_s0 [Lk] : (Int × List Int × Int × Int × Unit) → Option ((Int × List Int × Int × Int × Unit) ⊕ (Int × Unit) ⊕ (Int × Unit) ⊕ Unit) := fun (a0, a1, a2, a3, _) =>
 match (ilt a3 a2) with
 | true => match idx a1 a3 with
  | none => none
  | some x0 => match (!(ieq x0 a0)) with
   | true => some (.inr (.inl (x0, ())))
   | false => some (.inl (a0, a1, a2, (IntKind.wrap .i64 (a3 + 1)), ()))
 | false => some (.inr (.inr (.inl (a0, ()))))
def orI_d [Lk] : (List Int × Unit) → Option ((Int × Unit)) := fun (a0, _) =>
 match iterL orI_s0 many (0, a0, (dlen a0), 0, ()) with
 | none => none
 | some r => match r with
  | .inl (o0, _) => some (o0, ())
  | .inr r => match r with
   | .inl (o1, _) => some (o1, ())
   | .inr _ => none
def orI [Lk] := fun v => Lk.f (orI_d v)
theorem orI_eq v : orI v = orI_d v := lock_eq _
-- archipelago/level.sized
abbrev lsized_i : Items := [(.tmp 0, .di)]
abbrev lsized_o : Items := [(.tmp 0, .dat .bool)]
abbrev lsized_r : List RS := [.one]
def lsized_d [Lk] : (Int × Unit) → Option ((Bool × Unit)) := fun (a0, _) =>
 match (ile 1 a0) with
 | true => some ((ile a0 64), ())
 | false => some (false, ())
def lsized [Lk] := fun v => Lk.f (lsized_d v)
theorem lsized_eq v : lsized v = lsized_d v := lock_eq _
-- archipelago/level.Top
abbrev ltop_i : Items := [(.tmp 0, .di)]
abbrev ltop_o : Items := [(.tmp 0, .di)]
abbrev ltop_r : List RS := [.one]
def ltop_d [Lk] : (Int × Unit) → Option ((Int × Unit)) := fun (a0, _) =>
 match lsized (a0, ()) with
 | none => none
 | some (y0, _) => match (!y0) with
  | true => some (0, ())
  | false => match bitsLen ((IntKind.wrap .u64 (IntKind.wrap .i64 (a0 - 1))), ()) with
   | none => none
   | some (y1, _) => some (y1, ())
def ltop [Lk] := fun v => Lk.f (ltop_d v)
theorem ltop_eq v : ltop v = ltop_d v := lock_eq _
-- archipelago/level.compare
abbrev lcompare_i : Items := [(.tmp 0, .dat (.prod (.int .i64) (.prod (.int .i64) (.prod (.int .i64) (.prod .bool .unit))))), (.tmp 1, .dat (.prod (.int .i64) (.prod (.int .i64) (.prod (.int .i64) (.prod .bool .unit)))))]
abbrev lcompare_o : Items := [(.tmp 0, .di)]
abbrev lcompare_r : List RS := [.one]
def lcompare_d [Lk] : ((Int × Int × Int × Bool × Unit) × (Int × Int × Int × Bool × Unit) × Unit) → Option ((Int × Unit)) := fun (a0, a1, _) =>
 match compareI (a0.1, a1.1, ()) with
 | none => none
 | some (y0, _) => match compareI (a0.2.1, a1.2.1, ()) with
  | none => none
  | some (y1, _) => match orI (([y0, y1] : List (Int)), ()) with
   | none => none
   | some (y2, _) => some (y2, ())
def lcompare [Lk] := fun v => Lk.f (lcompare_d v)
theorem lcompare_eq v : lcompare v = lcompare_d v := lock_eq _
-- archipelago/level.trees
abbrev ltrees_i : Items := [(.tmp 0, .dat (.prod (.int .i64) (.prod (.slice (.prod (.int .i64) (.prod (.int .i64) (.prod (.int .i64) (.prod .bool .unit))))) .unit))), (.tmp 1, .di)]
abbrev ltrees_o : Items := [(.tmp 0, .own 72 (.prod (.int .i64) (.prod (.int .i64) .unit)))]
abbrev ltrees_r : List RS := [.one]
abbrev ltrees_i0 : Items := [(.tmp 1, .di), (.tmp 5, .own 72 (.prod (.int .i64) (.prod (.int .i64) .unit))), (.tmp 9, .dat (.slice (.prod (.int .i64) (.prod (.int .i64) (.prod (.int .i64) (.prod .bool .unit)))))), (.tmp 10, .di), (.tmp 11, .di)]
abbrev ltrees_o0 : Outs := [(.exit 0, [(.tmp 5, .own 72 (.prod (.int .i64) (.prod (.int .i64) .unit)))])]
def ltrees_s0 [Lk] : (Int × List (Int × Int × Unit) × List (Int × Int × Int × Bool × Unit) × Int × Int × Unit) → Option ((Int × List (Int × Int × Unit) × List (Int × Int × Int × Bool × Unit) × Int × Int × Unit) ⊕ (List (Int × Int × Unit) × Unit) ⊕ Unit) := fun (a0, a1, a2, a3, a4, _) =>
 match (ilt a4 a3) with
 | true => match idx a2 a4 with
  | none => none
  | some x0 => match x0.2.2.2.1 with
   | true => match (ile a0 x0.2.2.1) with
    | true => match (fits ((dlen a1) + (dlen ([(x0.1, (x0.2.1, ()))] : List (Int × Int × Unit))))) with
     | true => some (.inl (a0, (dapp a1 ([(x0.1, (x0.2.1, ()))] : List (Int × Int × Unit))), a2, a3, (IntKind.wrap .i64 (a4 + 1)), ()))
     | false => none
    | false => some (.inl (a0, a1, a2, a3, (IntKind.wrap .i64 (a4 + 1)), ()))
   | false => some (.inl (a0, a1, a2, a3, (IntKind.wrap .i64 (a4 + 1)), ()))
 | false => some (.inr (.inl (a1, ())))
def ltrees_d [Lk] : ((Int × (List (Int × Int × Int × Bool × Unit)) × Unit) × Int × Unit) → Option ((List (Int × Int × Unit) × Unit)) := fun (a0, a1, _) =>
 match iterL ltrees_s0 many (a1, ([] : List (Int × Int × Unit)), a0.2.1, (dlen a0.2.1), 0, ()) with
 | none => none
 | some r => match r with
  | .inl (o0, _) => some (o0, ())
  | .inr _ => none
def ltrees [Lk] := fun v => Lk.f (ltrees_d v)
theorem ltrees_eq v : ltrees v = ltrees_d v := lock_eq _
-- archipelago/level.Right
abbrev lright_i : Items := [(.tmp 0, .dat (.prod (.int .i64) (.prod (.slice (.prod (.int .i64) (.prod (.int .i64) (.prod (.int .i64) (.prod .bool .unit))))) .unit)))]
abbrev lright_o : Items := [(.tmp 0, .dat .bool)]
abbrev lright_r : List RS := [.one]
abbrev lright_i0 : Items := [(.tmp 1, .box 2), (.cell 0 0, .di), (.cell 0 1, .dat (.slice (.prod (.int .i64) (.prod (.int .i64) (.prod (.int .i64) (.prod .bool .unit)))))), (.tmp 3, .di), (.tmp 23, .dat (.slice (.prod (.int .i64) (.prod (.int .i64) (.prod (.int .i64) (.prod .bool .unit)))))), (.tmp 24, .di), (.tmp 25, .di)]
abbrev lright_o0 : Outs := [(.ret, [(.tmp 2, .dat .bool)]), (.exit 0, [(.tmp 1, .box 2), (.cell 0 0, .di), (.cell 0 1, .dat (.slice (.prod (.int .i64) (.prod (.int .i64) (.prod (.int .i64) (.prod .bool .unit))))))])]
def lright_s0 [Lk] : (Int × List (Int × Int × Int × Bool × Unit) × Int × List (Int × Int × Int × Bool × Unit) × Int × Int × Unit) → Option ((Int × List (Int × Int × Int × Bool × Unit) × Int × List (Int × Int × Int × Bool × Unit) × Int × Int × Unit) ⊕ (Bool × Unit) ⊕ (Int × List (Int × Int × Int × Bool × Unit) × Unit) ⊕ Unit) := fun (a0, a1, a2, a3, a4, a5, _) =>
 match (ilt a5 a4) with
 | true => match idx a3 a5 with
  | none => none
  | some x0 => match (ilt x0.1 0) with
   | true => some (.inr (.inl (false, ())))
   | false => match (ile x0.2.1 x0.1) with
    | true => some (.inr (.inl (false, ())))
    | false => match (ile a0 x0.2.1) with
     | true => some (.inr (.inl (false, ())))
     | false => match (ilt x0.2.2.1 0) with
      | true => some (.inr (.inl (false, ())))
      | false => match (ilt a2 x0.2.2.1) with
       | true => some (.inr (.inl (false, ())))
       | false => match (ilt 0 a5) with
        | true => match idx a1 (IntKind.wrap .i64 (a5 - 1)) with
         | none => none
         | some x1 => match lcompare ((x1.1, (x1.2.1, (x1.2.2.1, (x1.2.2.2.1, ())))), (x0.1, (x0.2.1, (x0.2.2.1, (x0.2.2.2.1, ())))), ()) with
          | none => none
          | some (y2, _) => match (ile 0 y2) with
           | true => some (.inr (.inl (false, ())))
           | false => some (.inl (a0, a1, a2, a3, a4, (IntKind.wrap .i64 (a5 + 1)), ()))
        | false => some (.inl (a0, a1, a2, a3, a4, (IntKind.wrap .i64 (a5 + 1)), ()))
 | false => some (.inr (.inr (.inl (a0, a1, ()))))
def lright_d [Lk] : ((Int × (List (Int × Int × Int × Bool × Unit)) × Unit) × Unit) → Option ((Bool × Unit)) := fun (a0, _) =>
 match lsized (a0.1, ()) with
 | none => none
 | some (y0, _) => match (!y0) with
  | true => some (false, ())
  | false => match (ilt 400 (dlen a0.2.1)) with
   | true => some (false, ())
   | false => match ltop (a0.1, ()) with
    | none => none
    | some (y1, _) => match iterL lright_s0 many (a0.1, a0.2.1, y1, a0.2.1, (dlen a0.2.1), 0, ()) with
     | none => none
     | some r => match r with
      | .inl (o2, _) => some (o2, ())
      | .inr r => match r with
       | .inl (o3, o4, _) => match ltrees ((o3, (o4, ())), 0, ()) with
        | none => none
        | some (y5, _) => match fof (o3, y5, ()) with
         | none => none
         | some (y6, y7, _) => match (ieq y7 0) with
          | true => some ((ieq (dlen y6.2.1) (IntKind.wrap .i64 (o3 - (dlen y5)))), ())
          | false => some (false, ())
       | .inr _ => none
def lright [Lk] := fun v => Lk.f (lright_d v)
theorem lright_eq v : lright v = lright_d v := lock_eq _
-- archipelago/level.Edges
abbrev ledges_i : Items := [(.tmp 0, .dat (.prod (.int .i64) (.prod (.slice (.prod (.int .i64) (.prod (.int .i64) (.prod (.int .i64) (.prod .bool .unit))))) .unit)))]
abbrev ledges_o : Items := [(.tmp 0, .own 72 (.prod (.int .i64) (.prod (.int .i64) .unit)))]
abbrev ledges_r : List RS := [.one]
abbrev ledges_i0 : Items := [(.tmp 3, .own 72 (.prod (.int .i64) (.prod (.int .i64) .unit))), (.tmp 10, .dat (.slice (.prod (.int .i64) (.prod (.int .i64) (.prod (.int .i64) (.prod .bool .unit)))))), (.tmp 11, .di), (.tmp 12, .di)]
abbrev ledges_o0 : Outs := [(.exit 0, [(.tmp 3, .own 72 (.prod (.int .i64) (.prod (.int .i64) .unit)))])]
def ledges_s0 [Lk] : (List (Int × Int × Unit) × List (Int × Int × Int × Bool × Unit) × Int × Int × Unit) → Option ((List (Int × Int × Unit) × List (Int × Int × Int × Bool × Unit) × Int × Int × Unit) ⊕ (List (Int × Int × Unit) × Unit) ⊕ Unit) := fun (a0, a1, a2, a3, _) =>
 match (ilt a3 a2) with
 | true => match idx a1 a3 with
  | none => none
  | some x0 => match (fits ((dlen a0) + (dlen ([(x0.1, (x0.2.1, ()))] : List (Int × Int × Unit))))) with
   | true => some (.inl ((dapp a0 ([(x0.1, (x0.2.1, ()))] : List (Int × Int × Unit))), a1, a2, (IntKind.wrap .i64 (a3 + 1)), ()))
   | false => none
 | false => some (.inr (.inl (a0, ())))
def ledges_d [Lk] : ((Int × (List (Int × Int × Int × Bool × Unit)) × Unit) × Unit) → Option ((List (Int × Int × Unit) × Unit)) := fun (a0, _) =>
 match lright ((a0.1, (a0.2.1, ())), ()) with
 | none => none
 | some (y0, _) => match (!y0) with
  | true => some (([] : List (Int × Int × Unit)), ())
  | false => match iterL ledges_s0 many (([] : List (Int × Int × Unit)), a0.2.1, (dlen a0.2.1), 0, ()) with
   | none => none
   | some r => match r with
    | .inl (o1, _) => some (o1, ())
    | .inr _ => none
def ledges [Lk] := fun v => Lk.f (ledges_d v)
theorem ledges_eq v : ledges v = ledges_d v := lock_eq _
-- archipelago/span.asked
abbrev sasked_i : Items := [(.tmp 0, .di), (.tmp 1, .dat (.slice (.prod (.int .i64) (.prod (.int .i64) .unit))))]
abbrev sasked_o : Items := [(.tmp 0, .di)]
abbrev sasked_r : List RS := [.one]
abbrev sasked_i0 : Items := [(.tmp 0, .di), (.tmp 13, .dat (.slice (.prod (.int .i64) (.prod (.int .i64) .unit)))), (.tmp 14, .di), (.tmp 15, .di)]
abbrev sasked_o0 : Outs := [(.ret, [(.tmp 4, .di)]), (.exit 0, [])]
def sasked_s0 [Lk] : (Int × List (Int × Int × Unit) × Int × Int × Unit) → Option ((Int × List (Int × Int × Unit) × Int × Int × Unit) ⊕ (Int × Unit) ⊕ (Unit) ⊕ Unit) := fun (a0, a1, a2, a3, _) =>
 match (ilt a3 a2) with
 | true => match idx a1 a3 with
  | none => none
  | some x0 => match (ilt (imin x0.1 x0.2.1) 0) with
   | true => some (.inr (.inl (10, ())))
   | false => match (ile a0 (imax x0.1 x0.2.1)) with
    | true => some (.inr (.inl (10, ())))
    | false => some (.inl (a0, a1, a2, (IntKind.wrap .i64 (a3 + 1)), ()))
 | false => some (.inr (.inr (.inl ())))
def sasked_d [Lk] : (Int × List (Int × Int × Unit) × Unit) → Option ((Int × Unit)) := fun (a0, a1, _) =>
 match (ilt a0 1) with
 | true => some (1, ())
 | false => match (ilt 64 a0) with
  | true => some (1, ())
  | false => match iterL sasked_s0 many (a0, a1, (dlen a1), 0, ()) with
   | none => none
   | some r => match r with
    | .inl (o0, _) => some (o0, ())
    | .inr r => match r with
     | .inl _ => some (0, ())
     | .inr _ => none
def sasked [Lk] := fun v => Lk.f (sasked_d v)
theorem sasked_eq v : sasked v = sasked_d v := lock_eq _
-- archipelago/span.alone
abbrev salone_i : Items := [(.tmp 0, .di)]
abbrev salone_o : Items := [(.tmp 0, .own 3 (.int .i64))]
abbrev salone_r : List RS := [.one]
abbrev salone_i0 : Items := [(.tmp 3, .own 3 (.int .i64)), (.tmp 8, .di), (.tmp 9, .di)]
abbrev salone_o0 : Outs := [(.exit 0, [(.tmp 3, .own 3 (.int .i64))])]
def salone_s0 [Lk] : (List Int × Int × Int × Unit) → Option ((List Int × Int × Int × Unit) ⊕ (List Int × Unit) ⊕ Unit) := fun (a0, a1, a2, _) =>
 match (ilt a2 a1) with
 | true => match idx a0 a2 with
  | none => none
  | some x0 => some (.inl ((dset a0 (dnat a2) a2), a1, (IntKind.wrap .i64 (a2 + 1)), ()))
 | false => some (.inr (.inl (a0, ())))
def salone_d [Lk] : (Int × Unit) → Option ((List Int × Unit)) := fun (a0, _) =>
 match (fitsI a0 && fitsI a0 && ile a0 a0 && true) with
 | true => match iterL salone_s0 many ((drep (dnat a0) (0 : Int)), (dlen (drep (dnat a0) (0 : Int))), (0 : Int), ()) with
  | none => none
  | some r => match r with
   | .inl (o0, _) => some (o0, ())
   | .inr _ => none
 | false => none
def salone [Lk] := fun v => Lk.f (salone_d v)
theorem salone_eq v : salone v = salone_d v := lock_eq _
-- (archipelago/span.sets).least
abbrev sleast_i : Items := [(.tmp 0, .own 3 (.int .i64)), (.tmp 1, .di)]
abbrev sleast_o : Items := [(.obj 0, .own 3 (.int .i64)), (.tmp 0, .di)]
abbrev sleast_r : List RS := [.one]
abbrev sleast_i0 : Items := [(.obj 0, .own 3 (.int .i64)), (.tmp 0, .own' 0), (.tmp 1, .di)]
abbrev sleast_o0 : Outs := [(.exit 0, [(.obj 0, .own 3 (.int .i64)), (.tmp 1, .di)])]
def sleast_s0 [Lk] : (List Int × Int × Unit) → Option ((List Int × Int × Unit) ⊕ (List Int × Int × Unit) ⊕ Unit) := fun (a0, a1, _) =>
 match idx a0 a1 with
 | none => none
 | some x0 => match (!(ieq (dget a0 (dnat a1) 0) a1)) with
  | true => match idx a0 a1 with
   | none => none
   | some x1 => match idx a0 (dget a0 (dnat a1) 0) with
    | none => none
    | some x2 => match idx a0 a1 with
     | none => none
     | some x3 => match idx (dset a0 (dnat a1) (dget a0 (dnat (dget a0 (dnat a1) 0)) 0)) a1 with
      | none => none
      | some x4 => some (.inl ((dset a0 (dnat a1) (dget a0 (dnat (dget a0 (dnat a1) 0)) 0)), (dget (dset a0 (dnat a1) (dget a0 (dnat (dget a0 (dnat a1) 0)) 0)) (dnat a1) 0), ()))
  | false => some (.inr (.inl (a0, a1, ())))
def sleast_d [Lk] : (List Int × Int × Unit) → Option ((List Int × Int × Unit)) := fun (a0, a1, _) =>
 match iterL sleast_s0 many (a0, a1, ()) with
 | none => none
 | some r => match r with
  | .inl (o0, o1, _) => some (o0, o1, ())
  | .inr _ => none
def sleast [Lk] := fun v => Lk.f (sleast_d v)
theorem sleast_eq v : sleast v = sleast_d v := lock_eq _
-- (archipelago/span.sets).join
abbrev sjoin_i : Items := [(.tmp 0, .own 3 (.int .i64)), (.tmp 1, .di), (.tmp 2, .di)]
abbrev sjoin_o : Items := [(.obj 0, .own 3 (.int .i64)), (.tmp 0, .dat .bool)]
abbrev sjoin_r : List RS := [.one]
def sjoin_d [Lk] : (List Int × Int × Int × Unit) → Option ((List Int × Bool × Unit)) := fun (a0, a1, a2, _) =>
 match sleast (a0, a1, ()) with
 | none => none
 | some (y0, y1, _) => match sleast (y0, a2, ()) with
  | none => none
  | some (y2, y3, _) => match idx y2 (imax y1 y3) with
   | none => none
   | some x4 => some ((dset y2 (dnat (imax y1 y3)) (imin y1 y3)), (!(ieq y1 y3)), ())
def sjoin [Lk] := fun v => Lk.f (sjoin_d v)
theorem sjoin_eq v : sjoin v = sjoin_d v := lock_eq _
-- archipelago/span.each
abbrev eachJoin_i : Items := [(.tmp 0, .dat (.slice (.prod (.int .i64) (.prod (.int .i64) .unit)))), (.cap 1 0, .own 3 (.int .i64)), (.tmp 1, .bnd 95 0)]
abbrev eachJoin_o : Items := [(.obj 0, .own 3 (.int .i64)), (.tmp 0, .own 4 .bool)]
abbrev eachJoin_r : List RS := [.one]
abbrev eachJoin_i0 : Items := [(.obj 0, .own 3 (.int .i64)), (.tmp 1, .bnd 95 0), (.tmp 5, .own 4 .bool), (.tmp 8, .dat (.slice (.prod (.int .i64) (.prod (.int .i64) .unit)))), (.tmp 9, .di), (.tmp 10, .di)]
abbrev eachJoin_o0 : Outs := [(.exit 0, [(.obj 0, .own 3 (.int .i64)), (.tmp 5, .own 4 .bool)])]
def eachJoin_s0 [Lk] : (List Int × List Bool × List (Int × Int × Unit) × Int × Int × Unit) → Option ((List Int × List Bool × List (Int × Int × Unit) × Int × Int × Unit) ⊕ (List Int × List Bool × Unit) ⊕ Unit) := fun (a0, a1, a2, a3, a4, _) =>
 match (ilt a4 a3) with
 | true => match idx a2 a4 with
  | none => none
  | some x0 => match sjoin (a0, x0.1, x0.2.1, ()) with
   | none => none
   | some (y1, y2, _) => match (fits ((dlen a1) + (dlen ([y2] : List (Bool))))) with
    | true => some (.inl (y1, (dapp a1 ([y2] : List (Bool))), a2, a3, (IntKind.wrap .i64 (a4 + 1)), ()))
    | false => none
 | false => some (.inr (.inl (a0, a1, ())))
def eachJoin_d [Lk] : (List (Int × Int × Unit) × List Int × Unit) → Option ((List Int × List Bool × Unit)) := fun (a0, a1, _) =>
 match iterL eachJoin_s0 many (a1, ([] : List (Bool)), a0, (dlen a0), 0, ()) with
 | none => none
 | some r => match r with
  | .inl (o0, o1, _) => some (o0, o1, ())
  | .inr _ => none
def eachJoin [Lk] := fun v => Lk.f (eachJoin_d v)
theorem eachJoin_eq v : eachJoin v = eachJoin_d v := lock_eq _
-- (archipelago/span.sets).joins
abbrev sjoins_i : Items := [(.tmp 0, .own 3 (.int .i64)), (.tmp 1, .dat (.slice (.prod (.int .i64) (.prod (.int .i64) .unit))))]
abbrev sjoins_o : Items := [(.obj 0, .own 3 (.int .i64)), (.tmp 0, .own 4 .bool)]
abbrev sjoins_r : List RS := [.one]
def sjoins_d [Lk] : (List Int × List (Int × Int × Unit) × Unit) → Option ((List Int × List Bool × Unit)) := fun (a0, a1, _) =>
 match eachJoin (a1, a0, ()) with
 | none => none
 | some (y0, y1, _) => some (y0, y1, ())
def sjoins [Lk] := fun v => Lk.f (sjoins_d v)
theorem sjoins_eq v : sjoins v = sjoins_d v := lock_eq _
-- archipelago/span.Classes
abbrev sclasses_i : Items := [(.tmp 0, .di), (.tmp 1, .dat (.slice (.prod (.int .i64) (.prod (.int .i64) .unit))))]
abbrev sclasses_o : Items := [(.tmp 0, .own 3 (.int .i64)), (.tmp 1, .di)]
abbrev sclasses_r : List RS := [.one, .one]
abbrev sclasses_i0 : Items := [(.tmp 7, .own 3 (.int .i64)), (.tmp 21, .di), (.tmp 22, .di)]
abbrev sclasses_o0 : Outs := [(.exit 0, [(.tmp 7, .own 3 (.int .i64))])]
def sclasses_s0 [Lk] : (List Int × Int × Int × Unit) → Option ((List Int × Int × Int × Unit) ⊕ (List Int × Unit) ⊕ Unit) := fun (a0, a1, a2, _) =>
 match (ilt a2 a1) with
 | true => match sleast (a0, a2, ()) with
  | none => none
  | some (y0, y1, _) => match idx y0 a2 with
   | none => none
   | some x2 => some (.inl ((dset y0 (dnat a2) y1), a1, (IntKind.wrap .i64 (a2 + 1)), ()))
 | false => some (.inr (.inl (a0, ())))
def sclasses_d [Lk] : (Int × List (Int × Int × Unit) × Unit) → Option ((List Int × Int × Unit)) := fun (a0, a1, _) =>
 match sasked (a0, a1, ()) with
 | none => none
 | some (y0, _) => match (!(ieq y0 0)) with
  | true => some (([] : List (Int)), y0, ())
  | false => match salone (a0, ()) with
   | none => none
   | some (y1, _) => match sjoins (y1, a1, ()) with
    | none => none
    | some (y2, y3, _) => match iterL sclasses_s0 many (y2, (dlen y2), 0, ()) with
     | none => none
     | some r => match r with
      | .inl (o4, _) => some (o4, 0, ())
      | .inr _ => none
def sclasses [Lk] := fun v => Lk.f (sclasses_d v)
theorem sclasses_eq v : sclasses v = sclasses_d v := lock_eq _
-- archipelago/say.of
abbrev sayof_i : Items := [(.tmp 0, .dat (.prod (.int .i64) (.prod (.slice (.prod (.int .i64) (.prod (.int .i64) (.prod (.int .i64) (.prod .bool .unit))))) .unit)))]
abbrev sayof_o : Items := [(.tmp 0, .own 3 (.int .i64)), (.tmp 1, .dat .bool)]
abbrev sayof_r : List RS := [.one, .one]
def sayof_d [Lk] : ((Int × (List (Int × Int × Int × Bool × Unit)) × Unit) × Unit) → Option ((List Int × Bool × Unit)) := fun (a0, _) =>
 match lright ((a0.1, (a0.2.1, ())), ()) with
 | none => none
 | some (y0, _) => match (!y0) with
  | true => some (([] : List (Int)), false, ())
  | false => match ledges ((a0.1, (a0.2.1, ())), ()) with
   | none => none
   | some (y1, _) => match sclasses (a0.1, y1, ()) with
    | none => none
    | some (y2, y3, _) => some (y2, true, ())
def sayof [Lk] := fun v => Lk.f (sayof_d v)
theorem sayof_eq v : sayof v = sayof_d v := lock_eq _
-- archipelago/say.fits
abbrev sfits_i : Items := [(.tmp 0, .di)]
abbrev sfits_o : Items := [(.tmp 0, .dat .bool)]
abbrev sfits_r : List RS := [.one]
def sfits_d [Lk] : (Int × Unit) → Option ((Bool × Unit)) := fun (a0, _) =>
 some ((ieq a0 (IntKind.wrap .i64 (IntKind.wrap .u16 a0))), ())
def sfits [Lk] := fun v => Lk.f (sfits_d v)
theorem sfits_eq v : sfits v = sfits_d v := lock_eq _
-- slices.IndexFunc[[]int,int]
abbrev idxFuncI_enc_i : Items := [(.tmp 0, .dat (.slice (.int .i64))), (.tmp 1, .clo 51 [])]
abbrev idxFuncI_enc_o : Items := [(.tmp 0, .di)]
abbrev idxFuncI_enc_r : List RS := [.one]
abbrev idxFuncI_enc_i0 : Items := [(.tmp 0, .dat (.slice (.int .i64))), (.tmp 1, .clo 51 []), (.tmp 7, .di), (.tmp 8, .di)]
abbrev idxFuncI_enc_o0 : Outs := [(.ret, [(.tmp 4, .di)]), (.exit 0, [])]
def idxFuncI_enc_s0 [Lk] : (List Int × Int × Int × Unit) → Option ((List Int × Int × Int × Unit) ⊕ (Int × Unit) ⊕ (Unit) ⊕ Unit) := fun (a0, a1, a2, _) =>
 match (ilt a2 a1) with
 | true => match idx a0 a2 with
  | none => none
  | some x0 => match sfits (x0, ()) with
   | none => none
   | some (y1, _) => match (!y1) with
    | true => some (.inr (.inl (a2, ())))
    | false => some (.inl (a0, a1, (IntKind.wrap .i64 (a2 + 1)), ()))
 | false => some (.inr (.inr (.inl ())))
def idxFuncI_enc_d [Lk] : (List Int × Unit) → Option ((Int × Unit)) := fun (a0, _) =>
 match iterL idxFuncI_enc_s0 many (a0, (dlen a0), 0, ()) with
 | none => none
 | some r => match r with
  | .inl (o0, _) => some (o0, ())
  | .inr r => match r with
   | .inl _ => some ((-1 : Int), ())
   | .inr _ => none
def idxFuncI_enc [Lk] := fun v => Lk.f (idxFuncI_enc_d v)
theorem idxFuncI_enc_eq v : idxFuncI_enc v = idxFuncI_enc_d v := lock_eq _
-- slices.ContainsFunc[[]int,int]
abbrev contFuncI_enc_i : Items := [(.tmp 0, .dat (.slice (.int .i64))), (.tmp 1, .clo 51 [])]
abbrev contFuncI_enc_o : Items := [(.tmp 0, .dat .bool)]
abbrev contFuncI_enc_r : List RS := [.one]
def contFuncI_enc_d [Lk] : (List Int × Unit) → Option ((Bool × Unit)) := fun (a0, _) =>
 match idxFuncI_enc (a0, ()) with
 | none => none
 | some (y0, _) => some ((ile 0 y0), ())
def contFuncI_enc [Lk] := fun v => Lk.f (contFuncI_enc_d v)
theorem contFuncI_enc_eq v : contFuncI_enc v = contFuncI_enc_d v := lock_eq _
-- archipelago/say.Encode
abbrev sencode_i : Items := [(.tmp 0, .dat (.prod (.int .i64) (.prod (.int .i64) (.prod (.slice (.int .i64)) .unit))))]
abbrev sencode_o : Items := [(.tmp 0, .own 5 (.int .u8)), (.tmp 1, .di)]
abbrev sencode_r : List RS := [.one, .one]
abbrev sencode_i0 : Items := [(.tmp 5, .own 5 (.int .u8)), (.tmp 33, .own 3 (.int .i64)), (.tmp 34, .di), (.tmp 35, .di)]
abbrev sencode_o0 : Outs := [(.exit 0, [(.tmp 5, .own 5 (.int .u8))])]
def sencode_s0 [Lk] : (List Int × List Int × Int × Int × Unit) → Option ((List Int × List Int × Int × Int × Unit) ⊕ (List Int × Unit) ⊕ Unit) := fun (a0, a1, a2, a3, _) =>
 match (ilt a3 a2) with
 | true => match idx a1 a3 with
  | none => none
  | some x0 => match shr? .i64 (dget a1 (dnat a3) 0) 8 with
   | none => none
   | some x1 => match (fits ((dlen a0) + (dlen ([(IntKind.wrap .u8 x1), (IntKind.wrap .u8 (dget a1 (dnat a3) 0))] : List (Int))))) with
    | true => some (.inl ((dapp a0 ([(IntKind.wrap .u8 x1), (IntKind.wrap .u8 (dget a1 (dnat a3) 0))] : List (Int))), a1, a2, (IntKind.wrap .i64 (a3 + 1)), ()))
    | false => none
 | false => some (.inr (.inl (a0, ())))
def sencode_d [Lk] : ((Int × Int × (List Int) × Unit) × Unit) → Option ((List Int × Int × Unit)) := fun (a0, _) =>
 match concatI (([([a0.2.1, (dlen a0.2.2.1)] : List (Int)), a0.2.2.1] : List (List Int)), ()) with
 | none => none
 | some (y0, _) => match (!(ieq a0.1 (IntKind.wrap .i64 (IntKind.wrap .u8 a0.1)))) with
  | true => some (([] : List (Int)), 1, ())
  | false => match contFuncI_enc (y0, ()) with
   | none => none
   | some (y1, _) => match y1 with
    | true => some (([] : List (Int)), 1, ())
    | false => match iterL sencode_s0 many (([(IntKind.wrap .u8 a0.1)] : List (Int)), y0, (dlen y0), 0, ()) with
     | none => none
     | some r => match r with
      | .inl (o2, _) => some (o2, 0, ())
      | .inr _ => none
def sencode [Lk] := fun v => Lk.f (sencode_d v)
theorem sencode_eq v : sencode v = sencode_d v := lock_eq _
-- slices.IndexFunc[[]int,int]
abbrev idxFuncI_cthere_i : Items := [(.tmp 0, .dat (.slice (.int .i64))), (.cap 1 0, .box 1), (.cell 0 0, .dat (.slice (.int .i64))), (.tmp 1, .clo 88 [(0, 0)])]
abbrev idxFuncI_cthere_o : Items := [(.obj 0, .box 1), (.cell 0 0, .dat (.slice (.int .i64))), (.tmp 0, .di)]
abbrev idxFuncI_cthere_r : List RS := [.one]
abbrev idxFuncI_cthere_i0 : Items := [(.obj 0, .box 1), (.cell 0 0, .dat (.slice (.int .i64))), (.tmp 0, .dat (.slice (.int .i64))), (.tmp 1, .clo 88 [(0, 0)]), (.tmp 7, .di), (.tmp 8, .di)]
abbrev idxFuncI_cthere_o0 : Outs := [(.ret, [(.obj 0, .box 1), (.cell 0 0, .dat (.slice (.int .i64))), (.tmp 4, .di)]), (.exit 0, [(.obj 0, .box 1), (.cell 0 0, .dat (.slice (.int .i64)))])]
def idxFuncI_cthere_s0 [Lk] : (List Int × List Int × Int × Int × Unit) → Option ((List Int × List Int × Int × Int × Unit) ⊕ (List Int × Int × Unit) ⊕ (List Int × Unit) ⊕ Unit) := fun (a0, a1, a2, a3, _) =>
 match (ilt a3 a2) with
 | true => match idx a1 a3 with
  | none => none
  | some x0 => match (ilt x0 0) with
   | true => some (.inr (.inl (a0, a3, ())))
   | false => match (ile (dlen a0) x0) with
    | true => some (.inr (.inl (a0, a3, ())))
    | false => some (.inl (a0, a1, a2, (IntKind.wrap .i64 (a3 + 1)), ()))
 | false => some (.inr (.inr (.inl (a0, ()))))
def idxFuncI_cthere_d [Lk] : (List Int × List Int × Unit) → Option ((List Int × Int × Unit)) := fun (a0, a1, _) =>
 match iterL idxFuncI_cthere_s0 many (a1, a0, (dlen a0), 0, ()) with
 | none => none
 | some r => match r with
  | .inl (o0, o1, _) => some (o0, o1, ())
  | .inr r => match r with
   | .inl (o2, _) => some (o2, (-1 : Int), ())
   | .inr _ => none
def idxFuncI_cthere [Lk] := fun v => Lk.f (idxFuncI_cthere_d v)
theorem idxFuncI_cthere_eq v : idxFuncI_cthere v = idxFuncI_cthere_d v := lock_eq _
-- slices.ContainsFunc[[]int,int]
abbrev contFuncI_cthere_i : Items := [(.tmp 0, .dat (.slice (.int .i64))), (.cap 1 0, .box 1), (.cell 0 0, .dat (.slice (.int .i64))), (.tmp 1, .clo 88 [(0, 0)])]
abbrev contFuncI_cthere_o : Items := [(.obj 0, .box 1), (.cell 0 0, .dat (.slice (.int .i64))), (.tmp 0, .dat .bool)]
abbrev contFuncI_cthere_r : List RS := [.one]
def contFuncI_cthere_d [Lk] : (List Int × List Int × Unit) → Option ((List Int × Bool × Unit)) := fun (a0, a1, _) =>
 match idxFuncI_cthere (a0, a1, ()) with
 | none => none
 | some (y0, y1, _) => some (y0, (ile 0 y1), ())
def contFuncI_cthere [Lk] := fun v => Lk.f (contFuncI_cthere_d v)
theorem contFuncI_cthere_eq v : contFuncI_cthere v = contFuncI_cthere_d v := lock_eq _
-- (archipelago/say.classes).there
abbrev cthere_i : Items := [(.tmp 0, .dat (.slice (.int .i64))), (.tmp 1, .dat (.slice (.int .i64)))]
abbrev cthere_o : Items := [(.tmp 0, .dat .bool)]
abbrev cthere_r : List RS := [.one]
def cthere_d [Lk] : (List Int × List Int × Unit) → Option ((Bool × Unit)) := fun (a0, a1, _) =>
 match contFuncI_cthere (a1, a0, ()) with
 | none => none
 | some (y0, y1, _) => some ((!y1), ())
def cthere [Lk] := fun v => Lk.f (cthere_d v)
theorem cthere_eq v : cthere v = cthere_d v := lock_eq _
-- (archipelago/say.classes).count
abbrev count1_i : Items := [(.tmp 0, .dat (.slice (.int .i64))), (.cap 1 0, .box 1), (.cell 0 0, .dat (.slice (.int .i64))), (.cap 1 1, .box 3), (.cell 1 0, .di), (.cell 1 1, .di), (.cell 1 2, .di), (.tmp 1, .clo 64 [(0, 0), (1, 0)])]
abbrev count1_o : Items := [(.obj 0, .box 1), (.cell 0 0, .dat (.slice (.int .i64))), (.obj 1, .box 3), (.cell 1 0, .di), (.cell 1 1, .di), (.cell 1 2, .di), (.tmp 0, .di)]
abbrev count1_r : List RS := [.one]
abbrev count1_i0 : Items := [(.obj 0, .box 1), (.cell 0 0, .dat (.slice (.int .i64))), (.obj 1, .box 3), (.cell 1 0, .di), (.cell 1 1, .di), (.cell 1 2, .di), (.tmp 1, .clo 64 [(0, 0), (1, 0)]), (.tmp 4, .di), (.tmp 7, .dat (.slice (.int .i64))), (.tmp 8, .di), (.tmp 9, .di)]
abbrev count1_o0 : Outs := [(.exit 0, [(.obj 0, .box 1), (.cell 0 0, .dat (.slice (.int .i64))), (.obj 1, .box 3), (.cell 1 0, .di), (.cell 1 1, .di), (.cell 1 2, .di), (.tmp 4, .di)])]
def count1_s0 [Lk] : (List Int × Int × Int × Int × Int × List Int × Int × Int × Unit) → Option ((List Int × Int × Int × Int × Int × List Int × Int × Int × Unit) ⊕ (List Int × Int × Int × Int × Int × Unit) ⊕ Unit) := fun (a0, a1, a2, a3, a4, a5, a6, a7, _) =>
 match (ilt a7 a6) with
 | true => match idx a5 a7 with
  | none => none
  | some x0 => match idx a0 a2 with
   | none => none
   | some x1 => match (ieq x0 x1) with
    | true => some (.inl (a0, a1, a2, a3, (IntKind.wrap .i64 (a4 + 1)), a5, a6, (IntKind.wrap .i64 (a7 + 1)), ()))
    | false => some (.inl (a0, a1, a2, a3, a4, a5, a6, (IntKind.wrap .i64 (a7 + 1)), ()))
 | false => some (.inr (.inl (a0, a1, a2, a3, a4, ())))
def count1_d [Lk] : (List Int × List Int × Int × Int × Int × Unit) → Option ((List Int × Int × Int × Int × Int × Unit)) := fun (a0, a1, a2, a3, a4, _) =>
 match iterL count1_s0 many (a1, a2, a3, a4, 0, a0, (dlen a0), 0, ()) with
 | none => none
 | some r => match r with
  | .inl (o0, o1, o2, o3, o4, _) => some (o0, o1, o2, o3, o4, ())
  | .inr _ => none
def count1 [Lk] := fun v => Lk.f (count1_d v)
theorem count1_eq v : count1 v = count1_d v := lock_eq _
-- (archipelago/say.classes).count
abbrev count2_i : Items := [(.tmp 0, .dat (.slice (.int .i64))), (.tmp 1, .clo 65 [])]
abbrev count2_o : Items := [(.tmp 0, .di)]
abbrev count2_r : List RS := [.one]
abbrev count2_i0 : Items := [(.tmp 1, .clo 65 []), (.tmp 4, .di), (.tmp 7, .dat (.slice (.int .i64))), (.tmp 8, .di), (.tmp 9, .di)]
abbrev count2_o0 : Outs := [(.exit 0, [(.tmp 4, .di)])]
def count2_s0 [Lk] : (Int × List Int × Int × Int × Unit) → Option ((Int × List Int × Int × Int × Unit) ⊕ (Int × Unit) ⊕ Unit) := fun (a0, a1, a2, a3, _) =>
 match (ilt a3 a2) with
 | true => match idx a1 a3 with
  | none => none
  | some x0 => match (ieq a3 x0) with
   | true => some (.inl ((IntKind.wrap .i64 (a0 + 1)), a1, a2, (IntKind.wrap .i64 (a3 + 1)), ()))
   | false => some (.inl (a0, a1, a2, (IntKind.wrap .i64 (a3 + 1)), ()))
 | false => some (.inr (.inl (a0, ())))
def count2_d [Lk] : (List Int × Unit) → Option ((Int × Unit)) := fun (a0, _) =>
 match iterL count2_s0 many (0, a0, (dlen a0), 0, ()) with
 | none => none
 | some r => match r with
  | .inl (o0, _) => some (o0, ())
  | .inr _ => none
def count2 [Lk] := fun v => Lk.f (count2_d v)
theorem count2_eq v : count2 v = count2_d v := lock_eq _
-- (archipelago/say.classes).answer
abbrev canswer_i : Items := [(.tmp 0, .dat (.slice (.int .i64))), (.tmp 1, .dat (.prod (.int .i64) (.prod (.int .i64) (.prod (.int .i64) .unit))))]
abbrev canswer_o : Items := [(.tmp 0, .di), (.tmp 1, .di)]
abbrev canswer_r : List RS := [.one, .one]
def canswer_d [Lk] : (List Int × (Int × Int × Int × Unit) × Unit) → Option ((Int × Int × Unit)) := fun (a0, a1, _) =>
 match (ieq a1.1 1) with
 | true => match cthere (a0, ([a1.2.1, a1.2.2.1] : List (Int)), ()) with
  | none => none
  | some (y0, _) => match (!y0) with
   | true => some (0, 10, ())
   | false => match idx a0 a1.2.1 with
    | none => none
    | some x1 => match idx a0 a1.2.2.1 with
     | none => none
     | some x2 => match (ieq x1 x2) with
      | true => some (1, 0, ())
      | false => some (0, 0, ())
 | false => match (ieq a1.1 2) with
  | true => match cthere (a0, ([a1.2.1] : List (Int)), ()) with
   | none => none
   | some (y3, _) => match (!y3) with
    | true => some (0, 10, ())
    | false => match (ieq a1.1 2) with
     | true => match idx a0 a1.2.1 with
      | none => none
      | some x4 => some (x4, 0, ())
     | false => match count1 (a0, a0, a1.1, a1.2.1, a1.2.2.1, ()) with
      | none => none
      | some (y5, y6, y7, y8, y9, _) => some (y9, 0, ())
  | false => match (ieq a1.1 3) with
   | true => match cthere (a0, ([a1.2.1] : List (Int)), ()) with
    | none => none
    | some (y10, _) => match (!y10) with
     | true => some (0, 10, ())
     | false => match (ieq a1.1 2) with
      | true => match idx a0 a1.2.1 with
       | none => none
       | some x11 => some (x11, 0, ())
      | false => match count1 (a0, a0, a1.1, a1.2.1, a1.2.2.1, ()) with
       | none => none
       | some (y12, y13, y14, y15, y16, _) => some (y16, 0, ())
   | false => match (ieq a1.1 4) with
    | true => match count2 (a0, ()) with
     | none => none
     | some (y17, _) => some (y17, 0, ())
    | false => some (0, 1, ())
def canswer [Lk] := fun v => Lk.f (canswer_d v)
theorem canswer_eq v : canswer v = canswer_d v := lock_eq _
-- archipelago/say.Answers
abbrev sanswers_i : Items := [(.tmp 0, .dat (.prod (.int .i64) (.prod (.slice (.prod (.int .i64) (.prod (.int .i64) (.prod (.int .i64) (.prod .bool .unit))))) .unit))), (.tmp 1, .dat (.slice (.prod (.int .i64) (.prod (.int .i64) (.prod (.int .i64) .unit)))))]
abbrev sanswers_o : Items := [(.tmp 0, .own 3 (.int .i64)), (.tmp 1, .di)]
abbrev sanswers_r : List RS := [.one, .one]
abbrev sanswers_i0 : Items := [(.tmp 6, .own 3 (.int .i64)), (.tmp 8, .own 3 (.int .i64)), (.tmp 20, .dat (.slice (.prod (.int .i64) (.prod (.int .i64) (.prod (.int .i64) .unit))))), (.tmp 21, .di), (.tmp 22, .di)]
abbrev sanswers_o0 : Outs := [(.ret, [(.tmp 4, .nil (.int .i64)), (.tmp 5, .di)]), (.exit 0, [(.tmp 8, .own 3 (.int .i64))])]
def sanswers_s0 [Lk] : (List Int × List Int × List (Int × Int × Int × Unit) × Int × Int × Unit) → Option ((List Int × List Int × List (Int × Int × Int × Unit) × Int × Int × Unit) ⊕ (Int × Unit) ⊕ (List Int × Unit) ⊕ Unit) := fun (a0, a1, a2, a3, a4, _) =>
 match (ilt a4 a3) with
 | true => match idx a2 a4 with
  | none => none
  | some x0 => match canswer (a0, (x0.1, (x0.2.1, (x0.2.2.1, ()))), ()) with
   | none => none
   | some (y1, y2, _) => match (!(ieq y2 0)) with
    | true => some (.inr (.inl (y2, ())))
    | false => match (fits ((dlen a1) + (dlen ([y1] : List (Int))))) with
     | true => some (.inl (a0, (dapp a1 ([y1] : List (Int))), a2, a3, (IntKind.wrap .i64 (a4 + 1)), ()))
     | false => none
 | false => some (.inr (.inr (.inl (a1, ()))))
def sanswers_d [Lk] : ((Int × (List (Int × Int × Int × Bool × Unit)) × Unit) × List (Int × Int × Int × Unit) × Unit) → Option ((List Int × Int × Unit)) := fun (a0, a1, _) =>
 match sayof ((a0.1, (a0.2.1, ())), ()) with
 | none => none
 | some (y0, y1, _) => match (!y1) with
  | true => some (([] : List (Int)), 1, ())
  | false => match iterL sanswers_s0 many (y0, ([] : List (Int)), a1, (dlen a1), 0, ()) with
   | none => none
   | some r => match r with
    | .inl (o2, _) => some (([] : List (Int)), o2, ())
    | .inr r => match r with
     | .inl (o3, _) => some (o3, 0, ())
     | .inr _ => none
def sanswers [Lk] := fun v => Lk.f (sanswers_d v)
theorem sanswers_eq v : sanswers v = sanswers_d v := lock_eq _
-- archipelago/say.Answer
abbrev sanswer_i : Items := [(.tmp 0, .dat (.prod (.int .i64) (.prod (.slice (.prod (.int .i64) (.prod (.int .i64) (.prod (.int .i64) (.prod .bool .unit))))) .unit))), (.tmp 1, .dat (.prod (.int .i64) (.prod (.int .i64) (.prod (.int .i64) .unit))))]
abbrev sanswer_o : Items := [(.tmp 0, .di), (.tmp 1, .di)]
abbrev sanswer_r : List RS := [.one, .one]
def sanswer_d [Lk] : ((Int × (List (Int × Int × Int × Bool × Unit)) × Unit) × (Int × Int × Int × Unit) × Unit) → Option ((Int × Int × Unit)) := fun (a0, a1, _) =>
 match sayof ((a0.1, (a0.2.1, ())), ()) with
 | none => none
 | some (y0, y1, _) => match (!y1) with
  | true => some (0, 1, ())
  | false => match canswer (y0, (a1.1, (a1.2.1, (a1.2.2.1, ()))), ()) with
   | none => none
   | some (y2, y3, _) => some (y2, y3, ())
def sanswer [Lk] := fun v => Lk.f (sanswer_d v)
theorem sanswer_eq v : sanswer v = sanswer_d v := lock_eq _
-- archipelago/wire.Number
abbrev wnumber_i : Items := [(.tmp 0, .dat (.slice (.int .u8))), (.tmp 1, .di)]
abbrev wnumber_o : Items := [(.tmp 0, .di), (.tmp 1, .dat .bool)]
abbrev wnumber_r : List RS := [.one, .one]
def wnumber_d [Lk] : (List Int × Int × Unit) → Option ((Int × Bool × Unit)) := fun (a0, a1, _) =>
 match (ilt a1 0) with
 | true => some (0, false, ())
 | false => match (ilt (IntKind.wrap .i64 ((dlen a0) - 2)) a1) with
  | true => some (0, false, ())
  | false => match idx a0 a1 with
   | none => none
   | some x0 => match shl? .i64 (IntKind.wrap .i64 x0) 8 with
    | none => none
    | some x1 => match idx a0 (IntKind.wrap .i64 (a1 + 1)) with
     | none => none
     | some x2 => some ((IntKind.wrap .i64 ((BitVec.ofInt (IntKind.bits .i64) x1 ||| BitVec.ofInt (IntKind.bits .i64) (IntKind.wrap .i64 x2)).toNat)), true, ())
def wnumber [Lk] := fun v => Lk.f (wnumber_d v)
theorem wnumber_eq v : wnumber v = wnumber_d v := lock_eq _
-- archipelago/say.Decode
abbrev sdecode_i : Items := [(.tmp 0, .dat (.slice (.int .u8)))]
abbrev sdecode_o : Items := [(.tmp 0, .di), (.tmp 1, .di), (.tmp 2, .own 3 (.int .i64)), (.tmp 3, .di), (.tmp 4, .di)]
abbrev sdecode_r : List RS := [.agg 3, .one, .one]
abbrev sdecode_i0 : Items := [(.tmp 0, .dat (.slice (.int .u8))), (.tmp 2, .box 3), (.cell 0 0, .di), (.cell 0 1, .di), (.cell 0 2, .nil (.int .i64)), (.tmp 5, .di), (.tmp 7, .box 3), (.cell 1 0, .di), (.cell 1 1, .di), (.cell 1 2, .own 3 (.int .i64)), (.tmp 40, .di), (.tmp 41, .di)]
abbrev sdecode_o0 : Outs := [(.exit 0, [(.tmp 2, .box 3), (.cell 0 0, .di), (.cell 0 1, .di), (.cell 0 2, .nil (.int .i64)), (.tmp 5, .di), (.tmp 7, .box 3), (.cell 1 0, .di), (.cell 1 1, .di), (.cell 1 2, .own 3 (.int .i64))])]
def sdecode_s0 [Lk] : (List Int × Int × Int × Int × Int × Int × List Int × Int × Int × Unit) → Option ((List Int × Int × Int × Int × Int × Int × List Int × Int × Int × Unit) ⊕ (Int × Int × Int × Int × Int × List Int × Unit) ⊕ Unit) := fun (a0, a1, a2, a3, a4, a5, a6, a7, a8, _) =>
 match (ilt a8 a7) with
 | true => match wnumber (a0, (IntKind.wrap .i64 (5 + (IntKind.wrap .i64 (2 * a8)))), ()) with
  | none => none
  | some (y0, y1, _) => match (fits ((dlen a6) + (dlen ([y0] : List (Int))))) with
   | true => some (.inl (a0, a1, a2, a3, a4, a5, (dapp a6 ([y0] : List (Int))), a7, (IntKind.wrap .i64 (a8 + 1)), ()))
   | false => none
 | false => some (.inr (.inl (a1, a2, a3, a4, a5, a6, ())))
def sdecode_d [Lk] : (List Int × Unit) → Option ((Int × Int × List Int × Int × Int × Unit)) := fun (a0, _) =>
 match wnumber (a0, 3, ()) with
 | none => none
 | some (y0, y1, _) => match (!y1) with
  | true => some (0, 0, ([] : List (Int)), (dlen a0), 7, ())
  | false => match (ilt (dlen a0) (IntKind.wrap .i64 (5 + (IntKind.wrap .i64 (2 * y0))))) with
   | true => some (0, 0, ([] : List (Int)), (dlen a0), 7, ())
   | false => match idx a0 0 with
    | none => none
    | some x2 => match wnumber (a0, 1, ()) with
     | none => none
     | some (y3, y4, _) => match iterL sdecode_s0 many (a0, 0, 0, y0, (IntKind.wrap .i64 x2), y3, ([] : List (Int)), y0, 0, ()) with
      | none => none
      | some r => match r with
       | .inl (o5, o6, o7, o8, o9, o10, _) => some (o8, o9, o10, (IntKind.wrap .i64 (5 + (IntKind.wrap .i64 (2 * o7)))), 0, ())
       | .inr _ => none
def sdecode [Lk] := fun v => Lk.f (sdecode_d v)
theorem sdecode_eq v : sdecode v = sdecode_d v := lock_eq _
-- slices.Equal[[]int,int]
abbrev equalI_i : Items := [(.tmp 0, .dat (.slice (.int .i64))), (.tmp 1, .dat (.slice (.int .i64)))]
abbrev equalI_o : Items := [(.tmp 0, .dat .bool)]
abbrev equalI_r : List RS := [.one]
abbrev equalI_i0 : Items := [(.tmp 0, .dat (.slice (.int .i64))), (.tmp 1, .dat (.slice (.int .i64))), (.tmp 12, .di), (.tmp 13, .di)]
abbrev equalI_o0 : Outs := [(.ret, [(.tmp 4, .dat .bool)]), (.exit 0, [])]
def equalI_s0 [Lk] : (List Int × List Int × Int × Int × Unit) → Option ((List Int × List Int × Int × Int × Unit) ⊕ (Bool × Unit) ⊕ (Unit) ⊕ Unit) := fun (a0, a1, a2, a3, _) =>
 match (ilt a3 a2) with
 | true => match idx a0 a3 with
  | none => none
  | some x0 => match idx a1 a3 with
   | none => none
   | some x1 => match (!(ieq x0 x1)) with
    | true => some (.inr (.inl (false, ())))
    | false => some (.inl (a0, a1, a2, (IntKind.wrap .i64 (a3 + 1)), ()))
 | false => some (.inr (.inr (.inl ())))
def equalI_d [Lk] : (List Int × List Int × Unit) → Option ((Bool × Unit)) := fun (a0, a1, _) =>
 match (!(ieq (dlen a0) (dlen a1))) with
 | true => some (false, ())
 | false => match iterL equalI_s0 many (a0, a1, (dlen a0), 0, ()) with
  | none => none
  | some r => match r with
   | .inl (o0, _) => some (o0, ())
   | .inr r => match r with
    | .inl _ => some (true, ())
    | .inr _ => none
def equalI [Lk] := fun v => Lk.f (equalI_d v)
theorem equalI_eq v : equalI v = equalI_d v := lock_eq _
-- archipelago/say.Same
abbrev ssame_i : Items := [(.tmp 0, .dat (.prod (.int .i64) (.prod (.int .i64) (.prod (.slice (.int .i64)) .unit)))), (.tmp 1, .dat (.prod (.int .i64) (.prod (.int .i64) (.prod (.slice (.int .i64)) .unit))))]
abbrev ssame_o : Items := [(.tmp 0, .dat .bool)]
abbrev ssame_r : List RS := [.one]
def ssame_d [Lk] : ((Int × Int × (List Int) × Unit) × (Int × Int × (List Int) × Unit) × Unit) → Option ((Bool × Unit)) := fun (a0, a1, _) =>
 match (ieq a0.1 a1.1) with
 | true => match (ieq a0.2.1 a1.2.1) with
  | true => match equalI (a0.2.2.1, a1.2.2.1, ()) with
   | none => none
   | some (y0, _) => some (y0, ())
  | false => some (false, ())
 | false => some (false, ())
def ssame [Lk] := fun v => Lk.f (ssame_d v)
theorem ssame_eq v : ssame v = ssame_d v := lock_eq _
-- archipelago/archipelagoref19.Classes
abbrev classes19_i : Items := [(.tmp 0, .di), (.tmp 1, .dat (.slice (.prod (.int .i64) (.prod (.int .i64) .unit))))]
abbrev classes19_o : Items := [(.tmp 0, .own 3 (.int .i64))]
abbrev classes19_r : List RS := [.one]
abbrev classes19_i2 : Items := [(.tmp 0, .di), (.tmp 1, .dat (.slice (.prod (.int .i64) (.prod (.int .i64) .unit)))), (.tmp 5, .own 3 (.int .i64)), (.tmp 7, .dat .bool), (.tmp 8, .di)]
abbrev classes19_o2 : Outs := [(.exit 4, [(.tmp 0, .di), (.tmp 1, .dat (.slice (.prod (.int .i64) (.prod (.int .i64) .unit)))), (.tmp 5, .own 3 (.int .i64)), (.tmp 7, .dat .bool)])]
def classes19_s2 [Lk] : (Int × List (Int × Int × Unit) × List Int × Bool × Int × Unit) → Option ((Int × List (Int × Int × Unit) × List Int × Bool × Int × Unit) ⊕ (Int × List (Int × Int × Unit) × List Int × Bool × Unit) ⊕ Unit) := fun (a0, a1, a2, a3, a4, _) =>
 match (ilt a4 (dlen a1)) with
 | true => match idx a1 a4 with
  | none => none
  | some x0 => match idx a1 a4 with
   | none => none
   | some x1 => match (ilt x0.1 0) with
    | true => some (.inl (a0, a1, a2, a3, (IntKind.wrap .i64 (a4 + 1)), ()))
    | false => match (ilt x1.2.1 0) with
     | true => some (.inl (a0, a1, a2, a3, (IntKind.wrap .i64 (a4 + 1)), ()))
     | false => match (ile a0 x0.1) with
      | true => some (.inl (a0, a1, a2, a3, (IntKind.wrap .i64 (a4 + 1)), ()))
      | false => match (ile a0 x1.2.1) with
       | true => some (.inl (a0, a1, a2, a3, (IntKind.wrap .i64 (a4 + 1)), ()))
       | false => match idx a2 x0.1 with
        | none => none
        | some x2 => match idx a2 x1.2.1 with
         | none => none
         | some x3 => match (ieq (dget a2 (dnat x0.1) 0) (dget a2 (dnat x1.2.1) 0)) with
          | true => some (.inl (a0, a1, a2, a3, (IntKind.wrap .i64 (a4 + 1)), ()))
          | false => match idx a2 x0.1 with
           | none => none
           | some x4 => match idx a2 x1.2.1 with
            | none => none
            | some x5 => match idx a2 x0.1 with
             | none => none
             | some x6 => match idx (dset a2 (dnat x0.1) (imin (dget a2 (dnat x0.1) 0) (dget a2 (dnat x1.2.1) 0))) x1.2.1 with
              | none => none
              | some x7 => some (.inl (a0, a1, (dset (dset a2 (dnat x0.1) (imin (dget a2 (dnat x0.1) 0) (dget a2 (dnat x1.2.1) 0))) (dnat x1.2.1) (imin (dget a2 (dnat x0.1) 0) (dget a2 (dnat x1.2.1) 0))), true, (IntKind.wrap .i64 (a4 + 1)), ()))
 | false => some (.inr (.inl (a0, a1, a2, a3, ())))
abbrev classes19_i1 : Items := [(.tmp 0, .di), (.tmp 1, .dat (.slice (.prod (.int .i64) (.prod (.int .i64) .unit)))), (.tmp 5, .own 3 (.int .i64)), (.tmp 7, .dat .bool)]
abbrev classes19_o1 : Outs := [(.exit 2, [(.tmp 5, .own 3 (.int .i64))])]
def classes19_s1 [Lk] : (Int × List (Int × Int × Unit) × List Int × Bool × Unit) → Option ((Int × List (Int × Int × Unit) × List Int × Bool × Unit) ⊕ (List Int × Unit) ⊕ Unit) := fun (a0, a1, a2, a3, _) =>
 match a3 with
 | true => match iterL classes19_s2 many (a0, a1, a2, false, 0, ()) with
  | none => none
  | some r => match r with
   | .inl (o0, o1, o2, o3, _) => some (.inl (o0, o1, o2, o3, ()))
   | .inr _ => none
 | false => some (.inr (.inl (a2, ())))
abbrev classes19_i0 : Items := [(.tmp 0, .di), (.tmp 1, .dat (.slice (.prod (.int .i64) (.prod (.int .i64) .unit)))), (.tmp 5, .own 3 (.int .i64)), (.tmp 6, .di)]
abbrev classes19_o0 : Outs := [(.exit 0, [(.tmp 0, .di), (.tmp 1, .dat (.slice (.prod (.int .i64) (.prod (.int .i64) .unit)))), (.tmp 5, .own 3 (.int .i64))])]
def classes19_s0 [Lk] : (Int × List (Int × Int × Unit) × List Int × Int × Unit) → Option ((Int × List (Int × Int × Unit) × List Int × Int × Unit) ⊕ (Int × List (Int × Int × Unit) × List Int × Unit) ⊕ Unit) := fun (a0, a1, a2, a3, _) =>
 match (ilt a3 a0) with
 | true => match (fits ((dlen a2) + (dlen ([a3] : List (Int))))) with
  | true => some (.inl (a0, a1, (dapp a2 ([a3] : List (Int))), (IntKind.wrap .i64 (a3 + 1)), ()))
  | false => none
 | false => some (.inr (.inl (a0, a1, a2, ())))
def classes19_d [Lk] : (Int × List (Int × Int × Unit) × Unit) → Option ((List Int × Unit)) := fun (a0, a1, _) =>
 match iterL classes19_s0 many (a0, a1, ([] : List (Int)), 0, ()) with
 | none => none
 | some r => match r with
  | .inl (o0, o1, o2, _) => match iterL classes19_s1 many (o0, o1, o2, true, ()) with
   | none => none
   | some r => match r with
    | .inl (o3, _) => some (o3, ())
    | .inr _ => none
  | .inr _ => none
def classes19 [Lk] := fun v => Lk.f (classes19_d v)
theorem classes19_eq v : classes19 v = classes19_d v := lock_eq _
-- archipelago/archipelagoref21.Top
abbrev top21_i : Items := [(.tmp 0, .di)]
abbrev top21_o : Items := [(.tmp 0, .di)]
abbrev top21_r : List RS := [.one]
abbrev top21_i0 : Items := [(.tmp 3, .di), (.tmp 4, .di)]
abbrev top21_o0 : Outs := [(.exit 0, [(.tmp 3, .di)])]
def top21_s0 [Lk] : (Int × Int × Unit) → Option ((Int × Int × Unit) ⊕ (Int × Unit) ⊕ Unit) := fun (a0, a1, _) =>
 match (ilt 0 a1) with
 | true => match quo? .i64 a1 2 with
  | none => none
  | some x0 => some (.inl ((IntKind.wrap .i64 (a0 + 1)), x0, ()))
 | false => some (.inr (.inl (a0, ())))
def top21_d [Lk] : (Int × Unit) → Option ((Int × Unit)) := fun (a0, _) =>
 match (ilt a0 1) with
 | true => some (0, ())
 | false => match (ilt 64 a0) with
  | true => some (0, ())
  | false => match iterL top21_s0 many (0, (IntKind.wrap .i64 (a0 - 1)), ()) with
   | none => none
   | some r => match r with
    | .inl (o0, _) => some (o0, ())
    | .inr _ => none
def top21 [Lk] := fun v => Lk.f (top21_d v)
theorem top21_eq v : top21 v = top21_d v := lock_eq _
-- archipelago/archipelagoref21.Right
abbrev right21_i : Items := [(.tmp 0, .dat (.prod (.int .i64) (.prod (.slice (.prod (.int .i64) (.prod (.int .i64) (.prod (.int .i64) (.prod .bool .unit))))) .unit)))]
abbrev right21_o : Items := [(.tmp 0, .dat .bool)]
abbrev right21_r : List RS := [.one]
abbrev right21_i1 : Items := [(.tmp 1, .box 2), (.cell 0 0, .di), (.cell 0 1, .dat (.slice (.prod (.int .i64) (.prod (.int .i64) (.prod (.int .i64) (.prod .bool .unit)))))), (.tmp 3, .own 72 (.prod (.int .i64) (.prod (.int .i64) .unit))), (.tmp 6, .own 3 (.int .i64)), (.tmp 7, .di), (.tmp 8, .di)]
abbrev right21_o1 : Outs := [(.exit 2, [(.tmp 1, .box 2), (.cell 0 0, .di), (.cell 0 1, .dat (.slice (.prod (.int .i64) (.prod (.int .i64) (.prod (.int .i64) (.prod .bool .unit)))))), (.tmp 3, .own 72 (.prod (.int .i64) (.prod (.int .i64) .unit))), (.tmp 7, .di)])]
def right21_s1 [Lk] : (Int × List (Int × Int × Int × Bool × Unit) × List (Int × Int × Unit) × List Int × Int × Int × Unit) → Option ((Int × List (Int × Int × Int × Bool × Unit) × List (Int × Int × Unit) × List Int × Int × Int × Unit) ⊕ (Int × List (Int × Int × Int × Bool × Unit) × List (Int × Int × Unit) × Int × Unit) ⊕ Unit) := fun (a0, a1, a2, a3, a4, a5, _) =>
 match (ilt a5 a0) with
 | true => match idx a3 a5 with
  | none => none
  | some x0 => match (ieq (dget a3 (dnat a5) 0) a5) with
   | true => some (.inl (a0, a1, a2, a3, (IntKind.wrap .i64 (a4 + 1)), (IntKind.wrap .i64 (a5 + 1)), ()))
   | false => some (.inl (a0, a1, a2, a3, a4, (IntKind.wrap .i64 (a5 + 1)), ()))
 | false => some (.inr (.inl (a0, a1, a2, a4, ())))
abbrev right21_i0 : Items := [(.tmp 1, .box 2), (.cell 0 0, .di), (.cell 0 1, .dat (.slice (.prod (.int .i64) (.prod (.int .i64) (.prod (.int .i64) (.prod .bool .unit)))))), (.tmp 3, .own 72 (.prod (.int .i64) (.prod (.int .i64) .unit))), (.tmp 4, .di)]
abbrev right21_o0 : Outs := [(.ret, [(.tmp 2, .dat .bool)]), (.exit 0, [(.tmp 1, .box 2), (.cell 0 0, .di), (.cell 0 1, .dat (.slice (.prod (.int .i64) (.prod (.int .i64) (.prod (.int .i64) (.prod .bool .unit)))))), (.tmp 3, .own 72 (.prod (.int .i64) (.prod (.int .i64) .unit)))])]
def right21_s0 [Lk] : (Int × List (Int × Int × Int × Bool × Unit) × List (Int × Int × Unit) × Int × Unit) → Option ((Int × List (Int × Int × Int × Bool × Unit) × List (Int × Int × Unit) × Int × Unit) ⊕ (Bool × Unit) ⊕ (Int × List (Int × Int × Int × Bool × Unit) × List (Int × Int × Unit) × Unit) ⊕ Unit) := fun (a0, a1, a2, a3, _) =>
 match (ilt a3 (dlen a1)) with
 | true => match idx a1 a3 with
  | none => none
  | some x0 => match (ilt x0.1 0) with
   | true => some (.inr (.inl (false, ())))
   | false => match (ile x0.2.1 x0.1) with
    | true => some (.inr (.inl (false, ())))
    | false => match (ile a0 x0.2.1) with
     | true => some (.inr (.inl (false, ())))
     | false => match (ilt x0.2.2.1 0) with
      | true => some (.inr (.inl (false, ())))
      | false => match top21 (a0, ()) with
       | none => none
       | some (y1, _) => match (ilt y1 x0.2.2.1) with
        | true => some (.inr (.inl (false, ())))
        | false => match (ilt 0 a3) with
         | true => match idx a1 (IntKind.wrap .i64 (a3 - 1)) with
          | none => none
          | some x2 => match (ilt x0.1 x2.1) with
           | true => some (.inr (.inl (false, ())))
           | false => match idx a1 (IntKind.wrap .i64 (a3 - 1)) with
            | none => none
            | some x3 => match (ieq x3.1 x0.1) with
             | true => match idx a1 (IntKind.wrap .i64 (a3 - 1)) with
              | none => none
              | some x4 => match (ile x0.2.1 x4.2.1) with
               | true => some (.inr (.inl (false, ())))
               | false => match x0.2.2.2.1 with
                | true => match (fits ((dlen a2) + (dlen ([(x0.1, (x0.2.1, ()))] : List (Int × Int × Unit))))) with
                 | true => some (.inl (a0, a1, (dapp a2 ([(x0.1, (x0.2.1, ()))] : List (Int × Int × Unit))), (IntKind.wrap .i64 (a3 + 1)), ()))
                 | false => none
                | false => some (.inl (a0, a1, a2, (IntKind.wrap .i64 (a3 + 1)), ()))
             | false => match x0.2.2.2.1 with
              | true => match (fits ((dlen a2) + (dlen ([(x0.1, (x0.2.1, ()))] : List (Int × Int × Unit))))) with
               | true => some (.inl (a0, a1, (dapp a2 ([(x0.1, (x0.2.1, ()))] : List (Int × Int × Unit))), (IntKind.wrap .i64 (a3 + 1)), ()))
               | false => none
              | false => some (.inl (a0, a1, a2, (IntKind.wrap .i64 (a3 + 1)), ()))
         | false => match x0.2.2.2.1 with
          | true => match (fits ((dlen a2) + (dlen ([(x0.1, (x0.2.1, ()))] : List (Int × Int × Unit))))) with
           | true => some (.inl (a0, a1, (dapp a2 ([(x0.1, (x0.2.1, ()))] : List (Int × Int × Unit))), (IntKind.wrap .i64 (a3 + 1)), ()))
           | false => none
          | false => some (.inl (a0, a1, a2, (IntKind.wrap .i64 (a3 + 1)), ()))
 | false => some (.inr (.inr (.inl (a0, a1, a2, ()))))
def right21_d [Lk] : ((Int × (List (Int × Int × Int × Bool × Unit)) × Unit) × Unit) → Option ((Bool × Unit)) := fun (a0, _) =>
 match (ilt a0.1 1) with
 | true => some (false, ())
 | false => match (ilt 64 a0.1) with
  | true => some (false, ())
  | false => match (ilt 400 (dlen a0.2.1)) with
   | true => some (false, ())
   | false => match iterL right21_s0 many (a0.1, a0.2.1, ([] : List (Int × Int × Unit)), 0, ()) with
    | none => none
    | some r => match r with
     | .inl (o0, _) => some (o0, ())
     | .inr r => match r with
      | .inl (o1, o2, o3, _) => match classes19 (o1, o3, ()) with
       | none => none
       | some (y4, _) => match iterL right21_s1 many (o1, o2, o3, y4, 0, 0, ()) with
        | none => none
        | some r => match r with
         | .inl (o5, o6, o7, o8, _) => some ((ieq o8 (IntKind.wrap .i64 (o5 - (dlen o7)))), ())
         | .inr _ => none
      | .inr _ => none
def right21 [Lk] := fun v => Lk.f (right21_d v)
theorem right21_eq v : right21 v = right21_d v := lock_eq _
-- archipelago/archipelagoref21.Edges
abbrev edges21_i : Items := [(.tmp 0, .dat (.prod (.int .i64) (.prod (.slice (.prod (.int .i64) (.prod (.int .i64) (.prod (.int .i64) (.prod .bool .unit))))) .unit)))]
abbrev edges21_o : Items := [(.tmp 0, .own 72 (.prod (.int .i64) (.prod (.int .i64) .unit)))]
abbrev edges21_r : List RS := [.one]
abbrev edges21_i0 : Items := [(.tmp 1, .box 2), (.cell 0 0, .di), (.cell 0 1, .dat (.slice (.prod (.int .i64) (.prod (.int .i64) (.prod (.int .i64) (.prod .bool .unit)))))), (.tmp 3, .own 72 (.prod (.int .i64) (.prod (.int .i64) .unit))), (.tmp 4, .di)]
abbrev edges21_o0 : Outs := [(.exit 0, [(.tmp 3, .own 72 (.prod (.int .i64) (.prod (.int .i64) .unit)))])]
def edges21_s0 [Lk] : (Int × List (Int × Int × Int × Bool × Unit) × List (Int × Int × Unit) × Int × Unit) → Option ((Int × List (Int × Int × Int × Bool × Unit) × List (Int × Int × Unit) × Int × Unit) ⊕ (List (Int × Int × Unit) × Unit) ⊕ Unit) := fun (a0, a1, a2, a3, _) =>
 match (ilt a3 (dlen a1)) with
 | true => match idx a1 a3 with
  | none => none
  | some x0 => match idx a1 a3 with
   | none => none
   | some x1 => match (fits ((dlen a2) + (dlen ([(x0.1, (x1.2.1, ()))] : List (Int × Int × Unit))))) with
    | true => some (.inl (a0, a1, (dapp a2 ([(x0.1, (x1.2.1, ()))] : List (Int × Int × Unit))), (IntKind.wrap .i64 (a3 + 1)), ()))
    | false => none
 | false => some (.inr (.inl (a2, ())))
def edges21_d [Lk] : ((Int × (List (Int × Int × Int × Bool × Unit)) × Unit) × Unit) → Option ((List (Int × Int × Unit) × Unit)) := fun (a0, _) =>
 match right21 ((a0.1, (a0.2.1, ())), ()) with
 | none => none
 | some (y0, _) => match (!y0) with
  | true => some (([] : List (Int × Int × Unit)), ())
  | false => match iterL edges21_s0 many (a0.1, a0.2.1, ([] : List (Int × Int × Unit)), 0, ()) with
   | none => none
   | some r => match r with
    | .inl (o1, _) => some (o1, ())
    | .inr _ => none
def edges21 [Lk] := fun v => Lk.f (edges21_d v)
theorem edges21_eq v : edges21 v = edges21_d v := lock_eq _
-- archipelago/archipelagoref18.in
abbrev in18_i : Items := [(.tmp 0, .di), (.tmp 1, .di)]
abbrev in18_o : Items := [(.tmp 0, .dat .bool)]
abbrev in18_r : List RS := [.one]
def in18_d [Lk] : (Int × Int × Unit) → Option ((Bool × Unit)) := fun (a0, a1, _) =>
 match (ile 1 a0) with
 | true => match (ile a0 64) with
  | true => match (ile 0 a1) with
   | true => some ((ilt a1 a0), ())
   | false => some (false, ())
  | false => some (false, ())
 | false => some (false, ())
def in18 [Lk] := fun v => Lk.f (in18_d v)
theorem in18_eq v : in18 v = in18_d v := lock_eq _
-- archipelago/archipelagoref18.Token
abbrev token18_i : Items := [(.tmp 0, .di), (.tmp 1, .di)]
abbrev token18_o : Items := [(.tmp 0, .di), (.tmp 1, .di), (.tmp 2, .dat .bool), (.tmp 3, .dat .bool)]
abbrev token18_r : List RS := [.one, .one, .one, .one]
def token18_d [Lk] : (Int × Int × Unit) → Option ((Int × Int × Bool × Bool × Unit)) := fun (a0, a1, _) =>
 match in18 (a0, a1, ()) with
 | none => none
 | some (y0, _) => match y0 with
  | true => some (a1, 0, false, true, ())
  | false => match (ilt a0 1) with
   | true => some (0, 0, false, false, ())
   | false => match (ilt 64 a0) with
    | true => some (0, 0, false, false, ())
    | false => match (ilt a1 a0) with
     | true => some (0, 0, false, false, ())
     | false => match (ile (IntKind.wrap .i64 (a0 + (IntKind.wrap .i64 (a0 * a0)))) a1) with
      | true => some (0, 0, false, false, ())
      | false => match quo? .i64 (IntKind.wrap .i64 (a1 - a0)) a0 with
       | none => none
       | some x1 => match rem? (IntKind.wrap .i64 (a1 - a0)) a0 with
        | none => none
        | some x2 => match (ieq x1 x2) with
         | true => some (0, 0, false, false, ())
         | false => some (x1, x2, true, true, ())
def token18 [Lk] := fun v => Lk.f (token18_d v)
theorem token18_eq v : token18 v = token18_d v := lock_eq _
-- archipelago/archipelagoref18.Arc
abbrev arc18_i : Items := [(.tmp 0, .di), (.tmp 1, .di), (.tmp 2, .di)]
abbrev arc18_o : Items := [(.tmp 0, .di)]
abbrev arc18_r : List RS := [.one]
def arc18_d [Lk] : (Int × Int × Int × Unit) → Option ((Int × Unit)) := fun (a0, a1, a2, _) =>
 match in18 (a0, a1, ()) with
 | none => none
 | some (y0, _) => match (!y0) with
  | true => some ((-1 : Int), ())
  | false => match in18 (a0, a2, ()) with
   | none => none
   | some (y1, _) => match (!y1) with
    | true => some ((-1 : Int), ())
    | false => match (ieq a1 a2) with
     | true => some ((-1 : Int), ())
     | false => some ((IntKind.wrap .i64 ((IntKind.wrap .i64 (a0 + (IntKind.wrap .i64 (a1 * a0)))) + a2)), ())
def arc18 [Lk] := fun v => Lk.f (arc18_d v)
theorem arc18_eq v : arc18 v = arc18_d v := lock_eq _
-- archipelago/archipelagoref18.Make
abbrev make18_i : Items := [(.tmp 0, .di)]
abbrev make18_o : Items := [(.tmp 0, .di), (.tmp 1, .own 43 (.slice (.int .i64))), (.tmp 2, .di)]
abbrev make18_r : List RS := [.agg 2, .one]
abbrev make18_i0 : Items := [(.tmp 0, .di), (.tmp 2, .box 2), (.cell 0 0, .di), (.cell 0 1, .nil (.slice (.int .i64))), (.tmp 4, .box 2), (.cell 1 0, .di), (.cell 1 1, .own 43 (.slice (.int .i64))), (.tmp 5, .di)]
abbrev make18_o0 : Outs := [(.exit 0, [(.tmp 2, .box 2), (.cell 0 0, .di), (.cell 0 1, .nil (.slice (.int .i64))), (.tmp 4, .box 2), (.cell 1 0, .di), (.cell 1 1, .own 43 (.slice (.int .i64)))])]
def make18_s0 [Lk] : (Int × Int × Int × List (List Int) × Int × Unit) → Option ((Int × Int × Int × List (List Int) × Int × Unit) ⊕ (Int × Int × List (List Int) × Unit) ⊕ Unit) := fun (a0, a1, a2, a3, a4, _) =>
 match (ilt a4 a0) with
 | true => match (fits ((dlen a3) + (dlen ([([a4] : List (Int))] : List (List Int))))) with
  | true => some (.inl (a0, a1, a2, (dapp a3 ([([a4] : List (Int))] : List (List Int))), (IntKind.wrap .i64 (a4 + 1)), ()))
  | false => none
 | false => some (.inr (.inl (a1, a2, a3, ())))
def make18_d [Lk] : (Int × Unit) → Option ((Int × List (List Int) × Int × Unit)) := fun (a0, _) =>
 match (ilt a0 1) with
 | true => some (0, ([] : List (List Int)), 1, ())
 | false => match (ilt 64 a0) with
  | true => some (0, ([] : List (List Int)), 1, ())
  | false => match iterL make18_s0 many (a0, 0, a0, ([] : List (List Int)), 0, ()) with
   | none => none
   | some r => match r with
    | .inl (o0, o1, o2, _) => some (o1, o2, 0, ())
    | .inr _ => none
def make18 [Lk] := fun v => Lk.f (make18_d v)
theorem make18_eq v : make18 v = make18_d v := lock_eq _
-- archipelago/archipelagoref18.stands
abbrev stands18_i : Items := [(.tmp 0, .di), (.tmp 1, .di), (.tmp 2, .di)]
abbrev stands18_o : Items := [(.tmp 0, .dat .bool)]
abbrev stands18_r : List RS := [.one]
def stands18_d [Lk] : (Int × Int × Int × Unit) → Option ((Bool × Unit)) := fun (a0, a1, a2, _) =>
 match token18 (a0, a1, ()) with
 | none => none
 | some (y0, y1, y2, y3, _) => match y3 with
  | true => match (!y2) with
   | true => match (ieq y0 a2) with
    | true => some (true, ())
    | false => match y2 with
     | true => some ((ieq y1 a2), ())
     | false => some (false, ())
   | false => match y2 with
    | true => some ((ieq y1 a2), ())
    | false => some (false, ())
  | false => some (false, ())
def stands18 [Lk] := fun v => Lk.f (stands18_d v)
theorem stands18_eq v : stands18 v = stands18_d v := lock_eq _
-- archipelago/archipelagoref18.tree
abbrev tree18_i : Items := [(.tmp 0, .di), (.tmp 1, .dat (.slice (.int .i64)))]
abbrev tree18_o : Items := [(.tmp 0, .dat .bool)]
abbrev tree18_r : List RS := [.one]
abbrev tree18_i2 : Items := [(.tmp 0, .di), (.tmp 1, .own 3 (.int .i64)), (.tmp 6, .di), (.tmp 14, .own 3 (.int .i64)), (.tmp 15, .di), (.tmp 27, .dat .bool), (.tmp 28, .dat .bool), (.tmp 64, .dat .bool), (.tmp 67, .dat .bool), (.tmp 70, .di), (.tmp 71, .di), (.tmp 72, .dat .bool), (.tmp 75, .di), (.tmp 76, .di), (.tmp 77, .di), (.tmp 78, .di), (.tmp 79, .di), (.tmp 80, .dat .bool), (.tmp 83, .di), (.tmp 84, .own' 0), (.tmp 85, .di), (.tmp 86, .own' 0), (.tmp 87, .di), (.tmp 88, .di), (.tmp 89, .di), (.tmp 90, .own' 0), (.tmp 91, .di), (.tmp 92, .di), (.tmp 94, .di), (.tmp 95, .di), (.tmp 96, .dat .bool)]
abbrev tree18_o2 : Outs := [(.exit 4, [(.tmp 0, .di), (.tmp 6, .di), (.tmp 14, .own 3 (.int .i64)), (.tmp 27, .dat .bool), (.tmp 28, .dat .bool), (.tmp 64, .dat .bool), (.tmp 67, .dat .bool), (.tmp 70, .di), (.tmp 71, .di), (.tmp 72, .dat .bool), (.tmp 75, .di), (.tmp 76, .di), (.tmp 77, .di), (.tmp 78, .di), (.tmp 79, .di), (.tmp 80, .dat .bool), (.tmp 83, .di), (.tmp 84, .own 3 (.int .i64)), (.tmp 85, .di), (.tmp 86, .own' 1), (.tmp 87, .di), (.tmp 88, .di), (.tmp 89, .di), (.tmp 90, .own' 1), (.tmp 91, .di), (.tmp 92, .di), (.tmp 94, .di), (.tmp 95, .di), (.tmp 96, .dat .bool)])]
def tree18_s2 [Lk] : (Int × List Int × Int × List Int × Int × Bool × Bool × Bool × Bool × Int × Int × Bool × Int × Int × Int × Int × Int × Bool × Int × Int × Int × Int × Int × Int × Int × Int × Int × Bool × Unit) → Option ((Int × List Int × Int × List Int × Int × Bool × Bool × Bool × Bool × Int × Int × Bool × Int × Int × Int × Int × Int × Bool × Int × Int × Int × Int × Int × Int × Int × Int × Int × Bool × Unit) ⊕ (Int × Int × List Int × Bool × Bool × Bool × Bool × Int × Int × Bool × Int × Int × Int × Int × Int × Bool × Int × List Int × Int × Int × Int × Int × Int × Int × Int × Int × Bool × Unit) ⊕ Unit) := fun (a0, a1, a2, a3, a4, a5, a6, a7, a8, a9, a10, a11, a12, a13, a14, a15, a16, a17, a18, a19, a20, a21, a22, a23, a24, a25, a26, a27, _) =>
 match (ilt a4 (dlen a1)) with
 | true => match rem? (IntKind.wrap .i64 (a2 + a4)) (dlen a1) with
  | none => none
  | some x0 => match idx a1 x0 with
   | none => none
   | some x1 => match (fits ((dlen a3) + (dlen ([(dget a1 (dnat x0) 0)] : List (Int))))) with
    | true => some (.inl (a0, a1, a2, (dapp a3 ([(dget a1 (dnat x0) 0)] : List (Int))), (IntKind.wrap .i64 (a4 + 1)), a5, a6, a7, a8, a9, a10, a11, a12, a13, a14, a15, a16, a17, a18, a19, a20, a21, a22, a23, a24, a25, a26, a27, ()))
    | false => none
 | false => some (.inr (.inl (a0, a2, a3, a5, a6, a7, a8, a9, a10, a11, a12, a13, a14, a15, a16, a17, a18, a1, a19, a20, a21, a22, a23, a24, a25, a26, a27, ())))
abbrev tree18_i1 : Items := [(.tmp 0, .di), (.tmp 1, .own 3 (.int .i64)), (.tmp 5, .dat .bool), (.tmp 6, .di)]
abbrev tree18_o1 : Outs := [(.exit 2, [(.tmp 0, .di), (.tmp 1, .own 3 (.int .i64)), (.tmp 5, .dat .bool)])]
def tree18_s1 [Lk] : (Int × List Int × Bool × Int × Unit) → Option ((Int × List Int × Bool × Int × Unit) ⊕ (Int × List Int × Bool × Unit) ⊕ Unit) := fun (a0, a1, a2, a3, _) =>
 match (ilt a3 (dlen a1)) with
 | true => match (!a2) with
  | true => match idx a1 a3 with
   | none => none
   | some x0 => match rem? (IntKind.wrap .i64 (a3 + 1)) (dlen a1) with
    | none => none
    | some x1 => match idx a1 x1 with
     | none => none
     | some x2 => match rem? (IntKind.wrap .i64 (a3 + 2)) (dlen a1) with
      | none => none
      | some x3 => match idx a1 x3 with
       | none => none
       | some x4 => match token18 (a0, (dget a1 (dnat a3) 0), ()) with
        | none => none
        | some (y5, y6, y7, y8, _) => match (ile 4 (dlen a1)) with
         | true => match y8 with
          | true => match y7 with
           | true => match (ieq (dget a1 (dnat x1) 0) y6) with
            | true => match arc18 (a0, y6, y5, ()) with
             | none => none
             | some (y9, _) => match (ieq (dget a1 (dnat x3) 0) y9) with
              | true => match rem? (IntKind.wrap .i64 ((IntKind.wrap .i64 (a3 + (dlen a1))) - 1)) (dlen a1) with
               | none => none
               | some x10 => match idx a1 x10 with
                | none => none
                | some x11 => match stands18 (a0, (dget a1 (dnat x10) 0), y5, ()) with
                 | none => none
                 | some (y12, _) => match y12 with
                  | true => match iterL tree18_s2 many (a0, a1, a3, ([] : List (Int)), 3, a2, (!a2), y8, y7, (dget a1 (dnat x1) 0), y6, (ieq (dget a1 (dnat x1) 0) y6), (dget a1 (dnat x3) 0), a0, y6, y5, y9, (ieq (dget a1 (dnat x3) 0) y9), a0, a3, (dlen a1), (IntKind.wrap .i64 (a3 + (dlen a1))), (IntKind.wrap .i64 ((IntKind.wrap .i64 (a3 + (dlen a1))) - 1)), (dlen a1), x10, (dget a1 (dnat x10) 0), y5, y12, ()) with
                   | none => none
                   | some r => match r with
                    | .inl (o13, o14, o15, o16, o17, o18, o19, o20, o21, o22, o23, o24, o25, o26, o27, o28, o29, o30, o31, o32, o33, o34, o35, o36, o37, o38, o39, _) => some (.inl (o13, o15, true, (IntKind.wrap .i64 (o14 + 1)), ()))
                    | .inr _ => none
                  | false => some (.inl (a0, a1, a2, (IntKind.wrap .i64 (a3 + 1)), ()))
              | false => some (.inl (a0, a1, a2, (IntKind.wrap .i64 (a3 + 1)), ()))
            | false => some (.inl (a0, a1, a2, (IntKind.wrap .i64 (a3 + 1)), ()))
           | false => some (.inl (a0, a1, a2, (IntKind.wrap .i64 (a3 + 1)), ()))
          | false => some (.inl (a0, a1, a2, (IntKind.wrap .i64 (a3 + 1)), ()))
         | false => some (.inl (a0, a1, a2, (IntKind.wrap .i64 (a3 + 1)), ()))
  | false => some (.inr (.inl (a0, a1, a2, ())))
 | false => some (.inr (.inl (a0, a1, a2, ())))
abbrev tree18_i0 : Items := [(.tmp 0, .di), (.tmp 1, .own 3 (.int .i64))]
abbrev tree18_o0 : Outs := [(.ret, [(.tmp 4, .dat .bool)]), (.exit 0, [(.tmp 0, .di), (.tmp 1, .own 3 (.int .i64))])]
def tree18_s0 [Lk] : (Int × List Int × Unit) → Option ((Int × List Int × Unit) ⊕ (Bool × Unit) ⊕ (Int × List Int × Unit) ⊕ Unit) := fun (a0, a1, _) =>
 match (ilt 1 (dlen a1)) with
 | true => match iterL tree18_s1 many (a0, a1, false, 0, ()) with
  | none => none
  | some r => match r with
   | .inl (o0, o1, o2, _) => match (!o2) with
    | true => some (.inr (.inl (false, ())))
    | false => some (.inl (o0, o1, ()))
   | .inr _ => none
 | false => some (.inr (.inr (.inl (a0, a1, ()))))
def tree18_d [Lk] : (Int × List Int × Unit) → Option ((Bool × Unit)) := fun (a0, a1, _) =>
 match (fits ((dlen ([] : List (Int))) + (dlen a1))) with
 | true => match iterL tree18_s0 many (a0, (dapp ([] : List (Int)) a1), ()) with
  | none => none
  | some r => match r with
   | .inl (o0, _) => some (o0, ())
   | .inr r => match r with
    | .inl (o1, o2, _) => match (ieq (dlen o2) 1) with
     | true => match idx o2 0 with
      | none => none
      | some x3 => match in18 (o1, (dget o2 0 0), ()) with
       | none => none
       | some (y4, _) => some (y4, ())
     | false => some (false, ())
    | .inr _ => none
 | false => none
def tree18 [Lk] := fun v => Lk.f (tree18_d v)
theorem tree18_eq v : tree18 v = tree18_d v := lock_eq _
-- archipelago/archipelagoref13.Place
abbrev place13_i : Items := [(.tmp 0, .dat (.slice (.int .i64))), (.tmp 1, .di)]
abbrev place13_o : Items := [(.tmp 0, .di)]
abbrev place13_r : List RS := [.one]
abbrev place13_i0 : Items := [(.tmp 0, .dat (.slice (.int .i64))), (.tmp 1, .di), (.tmp 5, .di)]
abbrev place13_o0 : Outs := [(.ret, [(.tmp 4, .di)]), (.exit 0, [])]
def place13_s0 [Lk] : (List Int × Int × Int × Unit) → Option ((List Int × Int × Int × Unit) ⊕ (Int × Unit) ⊕ (Unit) ⊕ Unit) := fun (a0, a1, a2, _) =>
 match (ilt a2 (dlen a0)) with
 | true => match idx a0 a2 with
  | none => none
  | some x0 => match (ieq x0 a1) with
   | true => some (.inr (.inl (a2, ())))
   | false => some (.inl (a0, a1, (IntKind.wrap .i64 (a2 + 1)), ()))
 | false => some (.inr (.inr (.inl ())))
def place13_d [Lk] : (List Int × Int × Unit) → Option ((Int × Unit)) := fun (a0, a1, _) =>
 match iterL place13_s0 many (a0, a1, 0, ()) with
 | none => none
 | some r => match r with
  | .inl (o0, _) => some (o0, ())
  | .inr r => match r with
   | .inl _ => some ((-1 : Int), ())
   | .inr _ => none
def place13 [Lk] := fun v => Lk.f (place13_d v)
theorem place13_eq v : place13 v = place13_d v := lock_eq _
-- archipelago/archipelagoref13.Right
abbrev right13_i : Items := [(.tmp 0, .dat (.slice (.int .i64)))]
abbrev right13_o : Items := [(.tmp 0, .dat .bool)]
abbrev right13_r : List RS := [.one]
abbrev right13_i0 : Items := [(.tmp 0, .dat (.slice (.int .i64))), (.tmp 3, .di)]
abbrev right13_o0 : Outs := [(.ret, [(.tmp 2, .dat .bool)]), (.exit 0, [])]
def right13_s0 [Lk] : (List Int × Int × Unit) → Option ((List Int × Int × Unit) ⊕ (Bool × Unit) ⊕ (Unit) ⊕ Unit) := fun (a0, a1, _) =>
 match (ilt a1 (dlen a0)) with
 | true => match idx a0 a1 with
  | none => none
  | some x0 => match (ilt x0 0) with
   | true => some (.inr (.inl (false, ())))
   | false => match idx a0 a1 with
    | none => none
    | some x1 => match (ilt 10000 x1) with
     | true => some (.inr (.inl (false, ())))
     | false => match subl a0 0 a1 with
      | none => none
      | some x2 => match idx a0 a1 with
       | none => none
       | some x3 => match place13 (x2, x3, ()) with
        | none => none
        | some (y4, _) => match (ile 0 y4) with
         | true => some (.inr (.inl (false, ())))
         | false => some (.inl (a0, (IntKind.wrap .i64 (a1 + 1)), ()))
 | false => some (.inr (.inr (.inl ())))
def right13_d [Lk] : (List Int × Unit) → Option ((Bool × Unit)) := fun (a0, _) =>
 match (ilt 1000 (dlen a0)) with
 | true => some (false, ())
 | false => match iterL right13_s0 many (a0, 0, ()) with
  | none => none
  | some r => match r with
   | .inl (o0, _) => some (o0, ())
   | .inr r => match r with
    | .inl _ => some (true, ())
    | .inr _ => none
def right13 [Lk] := fun v => Lk.f (right13_d v)
theorem right13_eq v : right13 v = right13_d v := lock_eq _
-- archipelago/archipelagoref13.From
abbrev from13_i : Items := [(.tmp 0, .dat (.slice (.int .i64))), (.tmp 1, .di)]
abbrev from13_o : Items := [(.tmp 0, .own 3 (.int .i64)), (.tmp 1, .dat .bool)]
abbrev from13_r : List RS := [.one, .one]
def from13_d [Lk] : (List Int × Int × Unit) → Option ((List Int × Bool × Unit)) := fun (a0, a1, _) =>
 match place13 (a0, a1, ()) with
 | none => none
 | some (y0, _) => match right13 (a0, ()) with
  | none => none
  | some (y1, _) => match (!y1) with
   | true => some (([] : List (Int)), false, ())
   | false => match (ilt y0 0) with
    | true => some (([] : List (Int)), false, ())
    | false => match subl a0 y0 (dlen a0) with
     | none => none
     | some x2 => match (fits ((dlen ([] : List (Int))) + (dlen x2))) with
      | true => match subl a0 0 y0 with
       | none => none
       | some x3 => match (fits ((dlen (dapp ([] : List (Int)) x2)) + (dlen x3))) with
        | true => some ((dapp (dapp ([] : List (Int)) x2) x3), true, ())
        | false => none
      | false => none
def from13 [Lk] := fun v => Lk.f (from13_d v)
theorem from13_eq v : from13 v = from13_d v := lock_eq _
-- archipelago/archipelagoref13.Plain
abbrev plain13_i : Items := [(.tmp 0, .dat (.slice (.int .i64)))]
abbrev plain13_o : Items := [(.tmp 0, .own 3 (.int .i64))]
abbrev plain13_r : List RS := [.one]
abbrev plain13_i0 : Items := [(.tmp 0, .dat (.slice (.int .i64))), (.tmp 3, .di), (.tmp 4, .di)]
abbrev plain13_o0 : Outs := [(.exit 0, [(.tmp 0, .dat (.slice (.int .i64))), (.tmp 3, .di)])]
def plain13_s0 [Lk] : (List Int × Int × Int × Unit) → Option ((List Int × Int × Int × Unit) ⊕ (List Int × Int × Unit) ⊕ Unit) := fun (a0, a1, a2, _) =>
 match (ilt a2 (dlen a0)) with
 | true => match idx a0 a2 with
  | none => none
  | some x0 => some (.inl (a0, (imin a1 x0), (IntKind.wrap .i64 (a2 + 1)), ()))
 | false => some (.inr (.inl (a0, a1, ())))
def plain13_d [Lk] : (List Int × Unit) → Option ((List Int × Unit)) := fun (a0, _) =>
 match right13 (a0, ()) with
 | none => none
 | some (y0, _) => match (!y0) with
  | true => some (([] : List (Int)), ())
  | false => match (ieq (dlen a0) 0) with
   | true => some (([] : List (Int)), ())
   | false => match idx a0 0 with
    | none => none
    | some x1 => match iterL plain13_s0 many (a0, x1, 0, ()) with
     | none => none
     | some r => match r with
      | .inl (o2, o3, _) => match from13 (o2, o3, ()) with
       | none => none
       | some (y4, y5, _) => some (y4, ())
      | .inr _ => none
def plain13 [Lk] := fun v => Lk.f (plain13_d v)
theorem plain13_eq v : plain13 v = plain13_d v := lock_eq _
-- archipelago/archipelagoref14.Lists
abbrev lists14_i : Items := [(.tmp 0, .dat (.slice (.slice (.int .i64)))), (.tmp 1, .dat (.slice (.slice (.int .i64))))]
abbrev lists14_o : Items := [(.tmp 0, .dat .bool)]
abbrev lists14_r : List RS := [.one]
abbrev lists14_i0 : Items := [(.tmp 0, .dat (.slice (.slice (.int .i64)))), (.tmp 1, .dat (.slice (.slice (.int .i64)))), (.tmp 5, .di)]
abbrev lists14_o0 : Outs := [(.ret, [(.tmp 4, .dat .bool)]), (.exit 0, [])]
def lists14_s0 [Lk] : (List (List Int) × List (List Int) × Int × Unit) → Option ((List (List Int) × List (List Int) × Int × Unit) ⊕ (Bool × Unit) ⊕ (Unit) ⊕ Unit) := fun (a0, a1, a2, _) =>
 match (ilt a2 (dlen a0)) with
 | true => match idx a0 a2 with
  | none => none
  | some x0 => match idx a1 a2 with
   | none => none
   | some x1 => match ints01 (x0, x1, ()) with
    | none => none
    | some (y2, _) => match (!y2) with
     | true => some (.inr (.inl (false, ())))
     | false => some (.inl (a0, a1, (IntKind.wrap .i64 (a2 + 1)), ()))
 | false => some (.inr (.inr (.inl ())))
def lists14_d [Lk] : (List (List Int) × List (List Int) × Unit) → Option ((Bool × Unit)) := fun (a0, a1, _) =>
 match (!(ieq (dlen a0) (dlen a1))) with
 | true => some (false, ())
 | false => match iterL lists14_s0 many (a0, a1, 0, ()) with
  | none => none
  | some r => match r with
   | .inl (o0, _) => some (o0, ())
   | .inr r => match r with
    | .inl _ => some (true, ())
    | .inr _ => none
def lists14 [Lk] := fun v => Lk.f (lists14_d v)
theorem lists14_eq v : lists14 v = lists14_d v := lock_eq _
-- archipelago/archipelagoref18.Right
abbrev right18_i : Items := [(.tmp 0, .dat (.prod (.int .i64) (.prod (.slice (.slice (.int .i64))) .unit)))]
abbrev right18_o : Items := [(.tmp 0, .dat .bool)]
abbrev right18_r : List RS := [.one]
abbrev right18_i1 : Items := [(.tmp 1, .box 2), (.cell 0 0, .di), (.cell 0 1, .dat (.slice (.slice (.int .i64)))), (.tmp 3, .own 4 .bool), (.tmp 4, .di), (.tmp 5, .di), (.tmp 6, .di), (.tmp 7, .dat (.slice (.int .i64))), (.tmp 8, .di), (.tmp 44, .dat (.slice (.int .i64))), (.tmp 45, .di), (.tmp 46, .dat .bool), (.tmp 49, .ptr' 0 0), (.tmp 50, .di), (.tmp 51, .dat (.slice (.int .i64))), (.tmp 52, .dat .bool), (.tmp 53, .dat .bool), (.tmp 56, .dat (.slice (.int .i64))), (.tmp 57, .dat (.slice (.int .i64))), (.tmp 58, .own 43 (.slice (.int .i64))), (.tmp 59, .dat (.slice (.int .i64))), (.tmp 60, .own 43 (.slice (.int .i64))), (.tmp 61, .dat .bool), (.tmp 62, .dat .bool), (.tmp 65, .dat (.slice (.int .i64))), (.tmp 67, .di), (.tmp 68, .di), (.tmp 69, .dat .bool)]
abbrev right18_o1 : Outs := [(.ret, [(.tmp 2, .dat .bool)]), (.exit 2, [(.tmp 1, .box 2), (.cell 0 0, .di), (.cell 0 1, .dat (.slice (.slice (.int .i64)))), (.tmp 3, .own 4 .bool), (.tmp 4, .di), (.tmp 5, .di), (.tmp 6, .di), (.tmp 44, .dat (.slice (.int .i64))), (.tmp 45, .di), (.tmp 46, .dat .bool), (.tmp 49, .ptr' 0 0), (.tmp 50, .di), (.tmp 51, .dat (.slice (.int .i64))), (.tmp 52, .dat .bool), (.tmp 53, .dat .bool), (.tmp 56, .dat (.slice (.int .i64))), (.tmp 57, .dat (.slice (.int .i64))), (.tmp 58, .own 43 (.slice (.int .i64))), (.tmp 59, .dat (.slice (.int .i64))), (.tmp 60, .own 43 (.slice (.int .i64))), (.tmp 61, .dat .bool), (.tmp 62, .dat .bool), (.tmp 65, .dat (.slice (.int .i64))), (.tmp 67, .di), (.tmp 68, .di), (.tmp 69, .dat .bool)])]
def right18_s1 [Lk] : (Int × List (List Int) × List Bool × Int × Int × Int × List Int × Int × List Int × Int × Bool × Int × List Int × Bool × Bool × List Int × List Int × List (List Int) × List Int × List (List Int) × Bool × Bool × List Int × Int × Int × Bool × Unit) → Option ((Int × List (List Int) × List Bool × Int × Int × Int × List Int × Int × List Int × Int × Bool × Int × List Int × Bool × Bool × List Int × List Int × List (List Int) × List Int × List (List Int) × Bool × Bool × List Int × Int × Int × Bool × Unit) ⊕ (Bool × Unit) ⊕ (Int × List (List Int) × List Bool × Int × Int × Int × List Int × Int × Bool × Int × List Int × Bool × Bool × List Int × List Int × List (List Int) × List Int × List (List Int) × Bool × Bool × List Int × Int × Int × Bool × Unit) ⊕ Unit) := fun (a0, a1, a2, a3, a4, a5, a6, a7, a8, a9, a10, a11, a12, a13, a14, a15, a16, a17, a18, a19, a20, a21, a22, a23, a24, a25, _) =>
 match (ilt a7 (dlen a6)) with
 | true => match idx a6 a7 with
  | none => none
  | some x0 => match (ilt x0 a0) with
   | true => match idx a6 a7 with
    | none => none
    | some x1 => match idx a2 x1 with
     | none => none
     | some x2 => match (dget a2 (dnat x1) false) with
      | true => some (.inr (.inl (false, ())))
      | false => match idx a6 a7 with
       | none => none
       | some x3 => match idx a2 x3 with
        | none => none
        | some x4 => some (.inl (a0, a1, (dset a2 (dnat x3) true), a3, (IntKind.wrap .i64 (a4 + 1)), a5, a6, (IntKind.wrap .i64 (a7 + 1)), a8, a9, a10, a11, a12, a13, a14, a15, a16, a17, a18, a19, a20, a21, a22, a23, a24, a25, ()))
   | false => some (.inl (a0, a1, a2, a3, a4, a5, a6, (IntKind.wrap .i64 (a7 + 1)), a8, a9, a10, a11, a12, a13, a14, a15, a16, a17, a18, a19, a20, a21, a22, a23, a24, a25, ()))
 | false => some (.inr (.inr (.inl (a0, a1, a2, a3, a4, a5, a8, a9, a10, a11, a12, a13, a14, a15, a16, a17, a18, a19, a20, a21, a22, a23, a24, a25, ()))))
abbrev right18_i0 : Items := [(.tmp 1, .box 2), (.cell 0 0, .di), (.cell 0 1, .dat (.slice (.slice (.int .i64)))), (.tmp 3, .own 4 .bool), (.tmp 4, .di), (.tmp 5, .di), (.tmp 6, .di)]
abbrev right18_o0 : Outs := [(.ret, [(.tmp 2, .dat .bool)]), (.exit 0, [(.tmp 1, .box 2), (.cell 0 0, .di), (.cell 0 1, .dat (.slice (.slice (.int .i64)))), (.tmp 5, .di)])]
def right18_s0 [Lk] : (Int × List (List Int) × List Bool × Int × Int × Int × Unit) → Option ((Int × List (List Int) × List Bool × Int × Int × Int × Unit) ⊕ (Bool × Unit) ⊕ (Int × List (List Int) × Int × Unit) ⊕ Unit) := fun (a0, a1, a2, a3, a4, a5, _) =>
 match (ilt a5 (dlen a1)) with
 | true => match idx a1 a5 with
  | none => none
  | some x0 => match right13 (x0, ()) with
   | none => none
   | some (y1, _) => match (!y1) with
    | true => some (.inr (.inl (false, ())))
    | false => match (ieq (dlen x0) 0) with
     | true => some (.inr (.inl (false, ())))
     | false => match tree18 (a0, x0, ()) with
      | none => none
      | some (y2, _) => match (!y2) with
       | true => some (.inr (.inl (false, ())))
       | false => match plain13 (x0, ()) with
        | none => none
        | some (y3, _) => match lists14 (([y3] : List (List Int)), ([x0] : List (List Int)), ()) with
         | none => none
         | some (y4, _) => match (!y4) with
          | true => some (.inr (.inl (false, ())))
          | false => match idx x0 0 with
           | none => none
           | some x5 => match (ile x5 a3) with
            | true => some (.inr (.inl (false, ())))
            | false => match idx x0 0 with
             | none => none
             | some x6 => match iterL right18_s1 many (a0, a1, a2, x6, a4, a5, x0, 0, x0, (dlen x0), (ieq (dlen x0) 0), a0, x0, y2, (!y2), x0, y3, ([y3] : List (List Int)), x0, ([x0] : List (List Int)), y4, (!y4), x0, x5, a3, (ile x5 a3), ()) with
              | none => none
              | some r => match r with
               | .inl (o7, _) => some (.inr (.inl (o7, ())))
               | .inr r => match r with
                | .inl (o8, o9, o10, o11, o12, o13, o14, o15, o16, o17, o18, o19, o20, o21, o22, o23, o24, o25, o26, o27, o28, o29, o30, o31, _) => some (.inl (o8, o9, o10, o11, o12, (IntKind.wrap .i64 (o13 + 1)), ()))
                | .inr _ => none
 | false => some (.inr (.inr (.inl (a0, a1, a4, ()))))
def right18_d [Lk] : ((Int × (List (List Int)) × Unit) × Unit) → Option ((Bool × Unit)) := fun (a0, _) =>
 match (ilt a0.1 1) with
 | true => some (false, ())
 | false => match (ilt 64 a0.1) with
  | true => some (false, ())
  | false => match (ilt a0.1 (dlen a0.2.1)) with
   | true => some (false, ())
   | false => match (fitsI a0.1 && fitsI a0.1 && ile a0.1 a0.1 && true) with
    | true => match iterL right18_s0 many (a0.1, a0.2.1, (drep (dnat a0.1) false), (-1 : Int), (0 : Int), (0 : Int), ()) with
     | none => none
     | some r => match r with
      | .inl (o0, _) => some (o0, ())
      | .inr r => match r with
       | .inl (o1, o2, o3, _) => some ((ieq o3 o1), ())
       | .inr _ => none
    | false => none
def right18 [Lk] := fun v => Lk.f (right18_d v)
theorem right18_eq v : right18 v = right18_d v := lock_eq _
-- archipelago/archipelagoref18.place
abbrev place18_i : Items := [(.tmp 0, .dat (.prod (.int .i64) (.prod (.slice (.slice (.int .i64))) .unit))), (.tmp 1, .di)]
abbrev place18_o : Items := [(.tmp 0, .di)]
abbrev place18_r : List RS := [.one]
abbrev place18_i0 : Items := [(.tmp 1, .di), (.tmp 2, .box 2), (.cell 0 0, .di), (.cell 0 1, .dat (.slice (.slice (.int .i64)))), (.tmp 5, .di)]
abbrev place18_o0 : Outs := [(.ret, [(.tmp 4, .di)]), (.exit 0, [])]
def place18_s0 [Lk] : (Int × Int × List (List Int) × Int × Unit) → Option ((Int × Int × List (List Int) × Int × Unit) ⊕ (Int × Unit) ⊕ (Unit) ⊕ Unit) := fun (a0, a1, a2, a3, _) =>
 match (ilt a3 (dlen a2)) with
 | true => match idx a2 a3 with
  | none => none
  | some x0 => match place13 (x0, a0, ()) with
   | none => none
   | some (y1, _) => match (ile 0 y1) with
    | true => some (.inr (.inl (a3, ())))
    | false => some (.inl (a0, a1, a2, (IntKind.wrap .i64 (a3 + 1)), ()))
 | false => some (.inr (.inr (.inl ())))
def place18_d [Lk] : ((Int × (List (List Int)) × Unit) × Int × Unit) → Option ((Int × Unit)) := fun (a0, a1, _) =>
 match iterL place18_s0 many (a1, a0.1, a0.2.1, 0, ()) with
 | none => none
 | some r => match r with
  | .inl (o0, _) => some (o0, ())
  | .inr r => match r with
   | .inl _ => some ((-1 : Int), ())
   | .inr _ => none
def place18 [Lk] := fun v => Lk.f (place18_d v)
theorem place18_eq v : place18 v = place18_d v := lock_eq _
-- archipelago/archipelagoref18.put
abbrev put18_i : Items := [(.tmp 0, .dat (.slice (.slice (.int .i64)))), (.tmp 1, .dat (.slice (.int .i64)))]
abbrev put18_o : Items := [(.tmp 0, .own 43 (.slice (.int .i64)))]
abbrev put18_r : List RS := [.one]
abbrev put18_i0 : Items := [(.tmp 0, .dat (.slice (.slice (.int .i64)))), (.tmp 1, .own 3 (.int .i64)), (.tmp 5, .di)]
abbrev put18_o0 : Outs := [(.exit 0, [(.tmp 0, .dat (.slice (.slice (.int .i64)))), (.tmp 1, .own 3 (.int .i64)), (.tmp 5, .di)])]
def put18_s0 [Lk] : (List (List Int) × List Int × Int × Unit) → Option ((List (List Int) × List Int × Int × Unit) ⊕ (List (List Int) × List Int × Int × Unit) ⊕ Unit) := fun (a0, a1, a2, _) =>
 match (ilt a2 (dlen a0)) with
 | true => match idx a0 a2 with
  | none => none
  | some x0 => match idx x0 0 with
   | none => none
   | some x1 => match idx a1 0 with
    | none => none
    | some x2 => match (ilt x1 (dget a1 0 0)) with
     | true => some (.inl (a0, a1, (IntKind.wrap .i64 (a2 + 1)), ()))
     | false => some (.inr (.inl (a0, a1, a2, ())))
 | false => some (.inr (.inl (a0, a1, a2, ())))
def put18_d [Lk] : (List (List Int) × List Int × Unit) → Option ((List (List Int) × Unit)) := fun (a0, a1, _) =>
 match plain13 (a1, ()) with
 | none => none
 | some (y0, _) => match iterL put18_s0 many (a0, y0, 0, ()) with
  | none => none
  | some r => match r with
   | .inl (o1, o2, o3, _) => match subl o1 0 o3 with
    | none => none
    | some x4 => match (fits ((dlen ([] : List (List Int))) + (dlen x4))) with
     | true => match (fits ((dlen (dapp ([] : List (List Int)) x4)) + (dlen ([o2] : List (List Int))))) with
      | true => match subl o1 o3 (dlen o1) with
       | none => none
       | some x5 => match (fits ((dlen (dapp (dapp ([] : List (List Int)) x4) ([o2] : List (List Int)))) + (dlen x5))) with
        | true => some ((dapp (dapp (dapp ([] : List (List Int)) x4) ([o2] : List (List Int))) x5), ())
        | false => none
      | false => none
     | false => none
   | .inr _ => none
def put18 [Lk] := fun v => Lk.f (put18_d v)
theorem put18_eq v : put18 v = put18_d v := lock_eq _
-- archipelago/archipelagoref18.without
abbrev without18_i : Items := [(.tmp 0, .dat (.slice (.slice (.int .i64)))), (.tmp 1, .di)]
abbrev without18_o : Items := [(.tmp 0, .own 43 (.slice (.int .i64)))]
abbrev without18_r : List RS := [.one]
def without18_d [Lk] : (List (List Int) × Int × Unit) → Option ((List (List Int) × Unit)) := fun (a0, a1, _) =>
 match subl a0 0 a1 with
 | none => none
 | some x0 => match (fits ((dlen ([] : List (List Int))) + (dlen x0))) with
  | true => match subl a0 (IntKind.wrap .i64 (a1 + 1)) (dlen a0) with
   | none => none
   | some x1 => match (fits ((dlen (dapp ([] : List (List Int)) x0)) + (dlen x1))) with
    | true => some ((dapp (dapp ([] : List (List Int)) x0) x1), ())
    | false => none
  | false => none
def without18 [Lk] := fun v => Lk.f (without18_d v)
theorem without18_eq v : without18 v = without18_d v := lock_eq _
-- archipelago/archipelagoref18.Link
abbrev link18_i : Items := [(.tmp 0, .dat (.prod (.int .i64) (.prod (.slice (.slice (.int .i64))) .unit))), (.tmp 1, .di), (.tmp 2, .di)]
abbrev link18_o : Items := [(.tmp 0, .di), (.tmp 1, .dat (.slice (.slice (.int .i64)))), (.tmp 2, .di)]
abbrev link18_r : List RS := [.agg 2, .one]
def link18_d [Lk] : ((Int × (List (List Int)) × Unit) × Int × Int × Unit) → Option ((Int × List (List Int) × Int × Unit)) := fun (a0, a1, a2, _) =>
 match right18 ((a0.1, (a0.2.1, ())), ()) with
 | none => none
 | some (y0, _) => match (!y0) with
  | true => some (a0.1, a0.2.1, 1, ())
  | false => match in18 (a0.1, a1, ()) with
   | none => none
   | some (y1, _) => match (!y1) with
    | true => some (a0.1, a0.2.1, 10, ())
    | false => match in18 (a0.1, a2, ()) with
     | none => none
     | some (y2, _) => match (!y2) with
      | true => some (a0.1, a0.2.1, 10, ())
      | false => match place18 ((a0.1, (a0.2.1, ())), a1, ()) with
       | none => none
       | some (y3, _) => match place18 ((a0.1, (a0.2.1, ())), a2, ()) with
        | none => none
        | some (y4, _) => match (ieq y3 y4) with
         | true => some (a0.1, a0.2.1, 5, ())
         | false => match place18 ((a0.1, (a0.2.1, ())), a1, ()) with
          | none => none
          | some (y5, _) => match place18 ((a0.1, (a0.2.1, ())), a2, ()) with
           | none => none
           | some (y6, _) => match idx a0.2.1 y5 with
            | none => none
            | some x7 => match from13 (x7, a1, ()) with
             | none => none
             | some (y8, y9, _) => match idx a0.2.1 y6 with
              | none => none
              | some x10 => match from13 (x10, a2, ()) with
               | none => none
               | some (y11, y12, _) => match arc18 (a0.1, a1, a2, ()) with
                | none => none
                | some (y13, _) => match (fits ((dlen ([a1, y13] : List (Int))) + (dlen y11))) with
                 | true => match arc18 (a0.1, a2, a1, ()) with
                  | none => none
                  | some (y14, _) => match (fits ((dlen (dapp ([a1, y13] : List (Int)) y11)) + (dlen ([y14] : List (Int))))) with
                   | true => match subl y8 1 (dlen y8) with
                    | none => none
                    | some x15 => match (fits ((dlen (dapp (dapp ([a1, y13] : List (Int)) y11) ([y14] : List (Int)))) + (dlen (dcut 1 (dnat (dlen x15)) y8)))) with
                     | true => match without18 (a0.2.1, (imax y5 y6), ()) with
                      | none => none
                      | some (y16, _) => match without18 (y16, (imin y5 y6), ()) with
                       | none => none
                       | some (y17, _) => match put18 (y17, (dapp (dapp (dapp ([a1, y13] : List (Int)) y11) ([y14] : List (Int))) (dcut 1 (dnat (dlen x15)) y8)), ()) with
                        | none => none
                        | some (y18, _) => some (a0.1, y18, 0, ())
                     | false => none
                   | false => none
                 | false => none
def link18 [Lk] := fun v => Lk.f (link18_d v)
theorem link18_eq v : link18 v = link18_d v := lock_eq _
-- archipelago/archipelagoref11.Same
-- archipelago/tour.Of
-- archipelago/forest.Least
-- archipelago/archipelagoref19.there
abbrev there19_i : Items := [(.tmp 0, .dat (.prod (.int .i64) (.prod (.slice (.slice (.int .i64))) .unit))), (.tmp 1, .dat (.slice (.prod (.int .i64) (.prod (.int .i64) .unit))))]
abbrev there19_o : Items := [(.tmp 0, .di)]
abbrev there19_r : List RS := [.one]
abbrev there19_i0 : Items := [(.tmp 1, .dat (.slice (.prod (.int .i64) (.prod (.int .i64) .unit)))), (.tmp 2, .box 2), (.cell 0 0, .di), (.cell 0 1, .dat (.slice (.slice (.int .i64)))), (.tmp 5, .di)]
abbrev there19_o0 : Outs := [(.ret, [(.tmp 4, .di)]), (.exit 0, [])]
def there19_s0 [Lk] : (List (Int × Int × Unit) × Int × List (List Int) × Int × Unit) → Option ((List (Int × Int × Unit) × Int × List (List Int) × Int × Unit) ⊕ (Int × Unit) ⊕ (Unit) ⊕ Unit) := fun (a0, a1, a2, a3, _) =>
 match (ilt a3 (dlen a0)) with
 | true => match idx a0 a3 with
  | none => none
  | some x0 => match (ilt x0.1 0) with
   | true => some (.inr (.inl (10, ())))
   | false => match idx a0 a3 with
    | none => none
    | some x1 => match (ile a1 x1.1) with
     | true => some (.inr (.inl (10, ())))
     | false => match idx a0 a3 with
      | none => none
      | some x2 => match (ilt x2.2.1 0) with
       | true => some (.inr (.inl (10, ())))
       | false => match idx a0 a3 with
        | none => none
        | some x3 => match (ile a1 x3.2.1) with
         | true => some (.inr (.inl (10, ())))
         | false => some (.inl (a0, a1, a2, (IntKind.wrap .i64 (a3 + 1)), ()))
 | false => some (.inr (.inr (.inl ())))
def there19_d [Lk] : ((Int × (List (List Int)) × Unit) × List (Int × Int × Unit) × Unit) → Option ((Int × Unit)) := fun (a0, a1, _) =>
 match right18 ((a0.1, (a0.2.1, ())), ()) with
 | none => none
 | some (y0, _) => match (!y0) with
  | true => some (1, ())
  | false => match iterL there19_s0 many (a1, a0.1, a0.2.1, 0, ()) with
   | none => none
   | some r => match r with
    | .inl (o1, _) => some (o1, ())
    | .inr r => match r with
     | .inl _ => some (0, ())
     | .inr _ => none
def there19 [Lk] := fun v => Lk.f (there19_d v)
theorem there19_eq v : there19 v = there19_d v := lock_eq _
end
end Go.Pev
end
section
namespace Go.Pev
set_option maxRecDepth 100000
noncomputable section
attribute [local irreducible] fitsR fitsIR idxR sublR iltR ileR ieqR quoR remR shlR shrR cloneR iterO many IntKind.wrap dlen dset dget dapp dtake dcut drep dnat dclear imin imax lookupM storeM
-- archipelago/archipelagoref19.Links
abbrev links19_i : Items := [(.tmp 0, .dat (.prod (.int .i64) (.prod (.slice (.slice (.int .i64))) .unit))), (.tmp 1, .dat (.slice (.prod (.int .i64) (.prod (.int .i64) .unit))))]
abbrev links19_o : Items := [(.tmp 0, .dat (.prod (.int .i64) (.prod (.slice (.slice (.int .i64))) .unit))), (.tmp 1, .own 4 .bool), (.tmp 2, .di)]
abbrev links19_r : List RS := [.one, .one, .one]
abbrev links19_i0 : Items := [(.tmp 1, .dat (.slice (.prod (.int .i64) (.prod (.int .i64) .unit)))), (.tmp 2, .box 2), (.cell 0 0, .di), (.cell 0 1, .dat (.slice (.slice (.int .i64)))), (.tmp 4, .box 2), (.cell 1 0, .di), (.cell 1 1, .nil (.slice (.int .i64))), (.tmp 8, .own 4 .bool), (.tmp 9, .di)]
abbrev links19_o0 : Outs := [(.exit 0, [(.tmp 2, .box 2), (.cell 0 0, .di), (.cell 0 1, .dat (.slice (.slice (.int .i64)))), (.tmp 4, .box 2), (.cell 1 0, .di), (.cell 1 1, .nil (.slice (.int .i64))), (.tmp 8, .own 4 .bool)])]
def links19_s0 [Lk] : (List (Int × Int × Unit) × Int × List (List Int) × Int × List Bool × Int × Unit) → Option ((List (Int × Int × Unit) × Int × List (List Int) × Int × List Bool × Int × Unit) ⊕ (Int × List (List Int) × Int × List Bool × Unit) ⊕ Unit) := fun (a0, a1, a2, a3, a4, a5, _) =>
 match (ilt a5 (dlen a0)) with
 | true => match idx a0 a5 with
  | none => none
  | some x0 => match idx a0 a5 with
   | none => none
   | some x1 => match link18 ((a1, (a2, ())), x0.1, x1.2.1, ()) with
    | none => none
    | some (y2, y3, y4, _) => match (fits ((dlen a4) + (dlen ([(ieq y4 0)] : List (Bool))))) with
     | true => some (.inl (a0, y2, y3, a3, (dapp a4 ([(ieq y4 0)] : List (Bool))), (IntKind.wrap .i64 (a5 + 1)), ()))
     | false => none
 | false => some (.inr (.inl (a1, a2, a3, a4, ())))
def links19_d [Lk] : ((Int × (List (List Int)) × Unit) × List (Int × Int × Unit) × Unit) → Option (((Int × (List (List Int)) × Unit) × List Bool × Int × Unit)) := fun (a0, a1, _) =>
 match there19 ((a0.1, (a0.2.1, ())), a1, ()) with
 | none => none
 | some (y0, _) => match (!(ieq y0 0)) with
  | true => some ((a0.1, (a0.2.1, ())), ([] : List (Bool)), y0, ())
  | false => match iterL links19_s0 many (a1, a0.1, a0.2.1, 0, ([] : List (Bool)), 0, ()) with
   | none => none
   | some r => match r with
    | .inl (o1, o2, o3, o4, _) => some ((o1, (o2, ())), o4, 0, ())
    | .inr _ => none
def links19 [Lk] := fun v => Lk.f (links19_d v)
theorem links19_eq v : links19 v = links19_d v := lock_eq _
-- archipelago/archipelagoref19.Of
abbrev of19_i : Items := [(.tmp 0, .di), (.tmp 1, .dat (.slice (.prod (.int .i64) (.prod (.int .i64) .unit))))]
abbrev of19_o : Items := [(.tmp 0, .dat (.prod (.int .i64) (.prod (.slice (.slice (.int .i64))) .unit))), (.tmp 1, .di)]
abbrev of19_r : List RS := [.one, .one]
def of19_d [Lk] : (Int × List (Int × Int × Unit) × Unit) → Option (((Int × (List (List Int)) × Unit) × Int × Unit)) := fun (a0, a1, _) =>
 match make18 (a0, ()) with
 | none => none
 | some (y0, y1, y2, _) => match (!(ieq y2 0)) with
  | true => some ((0, (([] : List (List Int)), ())), y2, ())
  | false => match links19 ((y0, (y1, ())), a1, ()) with
   | none => none
   | some (y3, y4, y5, _) => match (!(ieq y5 0)) with
    | true => some ((0, (([] : List (List Int)), ())), y5, ())
    | false => some ((y3.1, (y3.2.1, ())), 0, ())
def of19 [Lk] := fun v => Lk.f (of19_d v)
theorem of19_eq v : of19 v = of19_d v := lock_eq _
-- archipelago/archipelagoref20.asked
abbrev asked20_i : Items := [(.tmp 0, .di), (.tmp 1, .dat (.slice (.prod (.int .i64) (.prod (.int .i64) .unit))))]
abbrev asked20_o : Items := [(.tmp 0, .di)]
abbrev asked20_r : List RS := [.one]
abbrev asked20_i0 : Items := [(.tmp 0, .di), (.tmp 1, .dat (.slice (.prod (.int .i64) (.prod (.int .i64) .unit)))), (.tmp 5, .di)]
abbrev asked20_o0 : Outs := [(.ret, [(.tmp 4, .di)]), (.exit 0, [])]
def asked20_s0 [Lk] : (Int × List (Int × Int × Unit) × Int × Unit) → Option ((Int × List (Int × Int × Unit) × Int × Unit) ⊕ (Int × Unit) ⊕ (Unit) ⊕ Unit) := fun (a0, a1, a2, _) =>
 match (ilt a2 (dlen a1)) with
 | true => match idx a1 a2 with
  | none => none
  | some x0 => match (ilt x0.1 0) with
   | true => some (.inr (.inl (10, ())))
   | false => match idx a1 a2 with
    | none => none
    | some x1 => match (ile a0 x1.1) with
     | true => some (.inr (.inl (10, ())))
     | false => match idx a1 a2 with
      | none => none
      | some x2 => match (ilt x2.2.1 0) with
       | true => some (.inr (.inl (10, ())))
       | false => match idx a1 a2 with
        | none => none
        | some x3 => match (ile a0 x3.2.1) with
         | true => some (.inr (.inl (10, ())))
         | false => some (.inl (a0, a1, (IntKind.wrap .i64 (a2 + 1)), ()))
 | false => some (.inr (.inr (.inl ())))
def asked20_d [Lk] : (Int × List (Int × Int × Unit) × Unit) → Option ((Int × Unit)) := fun (a0, a1, _) =>
 match (ilt a0 1) with
 | true => some (1, ())
 | false => match (ilt 64 a0) with
  | true => some (1, ())
  | false => match iterL asked20_s0 many (a0, a1, 0, ()) with
   | none => none
   | some r => match r with
    | .inl (o0, _) => some (o0, ())
    | .inr r => match r with
     | .inl _ => some (0, ())
     | .inr _ => none
def asked20 [Lk] := fun v => Lk.f (asked20_d v)
theorem asked20_eq v : asked20 v = asked20_d v := lock_eq _
-- archipelago/archipelagoref20.Classes
abbrev classes20_i : Items := [(.tmp 0, .di), (.tmp 1, .dat (.slice (.prod (.int .i64) (.prod (.int .i64) .unit))))]
abbrev classes20_o : Items := [(.tmp 0, .own 3 (.int .i64)), (.tmp 1, .di)]
abbrev classes20_r : List RS := [.one, .one]
def classes20_d [Lk] : (Int × List (Int × Int × Unit) × Unit) → Option ((List Int × Int × Unit)) := fun (a0, a1, _) =>
 match asked20 (a0, a1, ()) with
 | none => none
 | some (y0, _) => match (!(ieq y0 0)) with
  | true => some (([] : List (Int)), y0, ())
  | false => match classes19 (a0, a1, ()) with
   | none => none
   | some (y1, _) => some (y1, 0, ())
def classes20 [Lk] := fun v => Lk.f (classes20_d v)
theorem classes20_eq v : classes20 v = classes20_d v := lock_eq _
-- archipelago/archipelagoref20.Count
abbrev count20_i : Items := [(.tmp 0, .di), (.tmp 1, .dat (.slice (.prod (.int .i64) (.prod (.int .i64) .unit))))]
abbrev count20_o : Items := [(.tmp 0, .di), (.tmp 1, .di)]
abbrev count20_r : List RS := [.one, .one]
abbrev count20_i0 : Items := [(.tmp 6, .own 3 (.int .i64)), (.tmp 7, .di), (.tmp 8, .di), (.tmp 9, .di)]
abbrev count20_o0 : Outs := [(.exit 0, [(.tmp 7, .di), (.tmp 8, .di)])]
def count20_s0 [Lk] : (List Int × Int × Int × Int × Unit) → Option ((List Int × Int × Int × Int × Unit) ⊕ (Int × Int × Unit) ⊕ Unit) := fun (a0, a1, a2, a3, _) =>
 match (ilt a3 (dlen a0)) with
 | true => match idx a0 a3 with
  | none => none
  | some x0 => match (ieq (dget a0 (dnat a3) 0) a3) with
   | true => some (.inl (a0, a1, (IntKind.wrap .i64 (a2 + 1)), (IntKind.wrap .i64 (a3 + 1)), ()))
   | false => some (.inl (a0, a1, a2, (IntKind.wrap .i64 (a3 + 1)), ()))
 | false => some (.inr (.inl (a1, a2, ())))
def count20_d [Lk] : (Int × List (Int × Int × Unit) × Unit) → Option ((Int × Int × Unit)) := fun (a0, a1, _) =>
 match classes20 (a0, a1, ()) with
 | none => none
 | some (y0, y1, _) => match iterL count20_s0 many (y0, y1, 0, 0, ()) with
  | none => none
  | some r => match r with
   | .inl (o2, o3, _) => some (o3, o2, ())
   | .inr _ => none
def count20 [Lk] := fun v => Lk.f (count20_d v)
theorem count20_eq v : count20 v = count20_d v := lock_eq _
-- archipelago/archipelagoref20.Choose
abbrev choose20_i : Items := [(.tmp 0, .dat (.prod (.int .i64) (.prod (.slice (.slice (.int .i64))) .unit))), (.tmp 1, .dat (.slice (.prod (.int .i64) (.prod (.int .i64) .unit))))]
abbrev choose20_o : Items := [(.tmp 0, .own 4 .bool), (.tmp 1, .di)]
abbrev choose20_r : List RS := [.one, .one]
def choose20_d [Lk] : ((Int × (List (List Int)) × Unit) × List (Int × Int × Unit) × Unit) → Option ((List Bool × Int × Unit)) := fun (a0, a1, _) =>
 match links19 ((a0.1, (a0.2.1, ())), a1, ()) with
 | none => none
 | some (y0, y1, y2, _) => some (y1, y2, ())
def choose20 [Lk] := fun v => Lk.f (choose20_d v)
theorem choose20_eq v : choose20 v = choose20_d v := lock_eq _
-- archipelago/archipelagoref21.Find
-- archipelago/archipelagoref21.Trees
abbrev trees21_i : Items := [(.tmp 0, .dat (.prod (.int .i64) (.prod (.slice (.prod (.int .i64) (.prod (.int .i64) (.prod (.int .i64) (.prod .bool .unit))))) .unit))), (.tmp 1, .di)]
abbrev trees21_o : Items := [(.tmp 0, .own 72 (.prod (.int .i64) (.prod (.int .i64) .unit)))]
abbrev trees21_r : List RS := [.one]
abbrev trees21_i0 : Items := [(.tmp 1, .di), (.tmp 2, .box 2), (.cell 0 0, .di), (.cell 0 1, .dat (.slice (.prod (.int .i64) (.prod (.int .i64) (.prod (.int .i64) (.prod .bool .unit)))))), (.tmp 5, .own 72 (.prod (.int .i64) (.prod (.int .i64) .unit))), (.tmp 6, .di)]
abbrev trees21_o0 : Outs := [(.exit 0, [(.tmp 5, .own 72 (.prod (.int .i64) (.prod (.int .i64) .unit)))])]
def trees21_s0 [Lk] : (Int × Int × List (Int × Int × Int × Bool × Unit) × List (Int × Int × Unit) × Int × Unit) → Option ((Int × Int × List (Int × Int × Int × Bool × Unit) × List (Int × Int × Unit) × Int × Unit) ⊕ (List (Int × Int × Unit) × Unit) ⊕ Unit) := fun (a0, a1, a2, a3, a4, _) =>
 match (ilt a4 (dlen a2)) with
 | true => match idx a2 a4 with
  | none => none
  | some x0 => match x0.2.2.2.1 with
   | true => match idx a2 a4 with
    | none => none
    | some x1 => match (ile a0 x1.2.2.1) with
     | true => match idx a2 a4 with
      | none => none
      | some x2 => match idx a2 a4 with
       | none => none
       | some x3 => match (fits ((dlen a3) + (dlen ([(x2.1, (x3.2.1, ()))] : List (Int × Int × Unit))))) with
        | true => some (.inl (a0, a1, a2, (dapp a3 ([(x2.1, (x3.2.1, ()))] : List (Int × Int × Unit))), (IntKind.wrap .i64 (a4 + 1)), ()))
        | false => none
     | false => some (.inl (a0, a1, a2, a3, (IntKind.wrap .i64 (a4 + 1)), ()))
   | false => some (.inl (a0, a1, a2, a3, (IntKind.wrap .i64 (a4 + 1)), ()))
 | false => some (.inr (.inl (a3, ())))
def trees21_d [Lk] : ((Int × (List (Int × Int × Int × Bool × Unit)) × Unit) × Int × Unit) → Option ((List (Int × Int × Unit) × Unit)) := fun (a0, a1, _) =>
 match iterL trees21_s0 many (a1, a0.1, a0.2.1, ([] : List (Int × Int × Unit)), 0, ()) with
 | none => none
 | some r => match r with
  | .inl (o0, _) => some (o0, ())
  | .inr _ => none
def trees21 [Lk] := fun v => Lk.f (trees21_d v)
theorem trees21_eq v : trees21 v = trees21_d v := lock_eq _
-- archipelago/archipelagoref21.Forest
abbrev forest21_i : Items := [(.tmp 0, .dat (.prod (.int .i64) (.prod (.slice (.prod (.int .i64) (.prod (.int .i64) (.prod (.int .i64) (.prod .bool .unit))))) .unit))), (.tmp 1, .di)]
abbrev forest21_o : Items := [(.tmp 0, .dat (.prod (.int .i64) (.prod (.slice (.slice (.int .i64))) .unit))), (.tmp 1, .di)]
abbrev forest21_r : List RS := [.one, .one]
def forest21_d [Lk] : ((Int × (List (Int × Int × Int × Bool × Unit)) × Unit) × Int × Unit) → Option (((Int × (List (List Int)) × Unit) × Int × Unit)) := fun (a0, a1, _) =>
 match right21 ((a0.1, (a0.2.1, ())), ()) with
 | none => none
 | some (y0, _) => match (!y0) with
  | true => some ((0, (([] : List (List Int)), ())), 1, ())
  | false => match trees21 ((a0.1, (a0.2.1, ())), a1, ()) with
   | none => none
   | some (y1, _) => match of19 (a0.1, y1, ()) with
    | none => none
    | some (y2, y3, _) => some ((y2.1, (y2.2.1, ())), y3, ())
def forest21 [Lk] := fun v => Lk.f (forest21_d v)
theorem forest21_eq v : forest21 v = forest21_d v := lock_eq _
-- archipelago/archipelagoref21.Same
-- archipelago/archipelagoref22.Has
abbrev has22_i : Items := [(.tmp 0, .dat (.slice (.prod (.int .i64) (.prod (.int .i64) .unit)))), (.tmp 1, .dat (.prod (.int .i64) (.prod (.int .i64) .unit)))]
abbrev has22_o : Items := [(.tmp 0, .dat .bool)]
abbrev has22_r : List RS := [.one]
abbrev has22_i0 : Items := [(.tmp 0, .dat (.slice (.prod (.int .i64) (.prod (.int .i64) .unit)))), (.tmp 3, .box 2), (.cell 0 0, .di), (.cell 0 1, .di), (.tmp 5, .di)]
abbrev has22_o0 : Outs := [(.ret, [(.tmp 4, .dat .bool)]), (.exit 0, [])]
def has22_s0 [Lk] : (List (Int × Int × Unit) × Int × Int × Int × Unit) → Option ((List (Int × Int × Unit) × Int × Int × Int × Unit) ⊕ (Bool × Unit) ⊕ (Unit) ⊕ Unit) := fun (a0, a1, a2, a3, _) =>
 match (ilt a3 (dlen a0)) with
 | true => match idx a0 a3 with
  | none => none
  | some x0 => match (ieq x0.1 a1 && (ieq x0.2.1 a2 && true)) with
   | true => some (.inr (.inl (true, ())))
   | false => some (.inl (a0, a1, a2, (IntKind.wrap .i64 (a3 + 1)), ()))
 | false => some (.inr (.inr (.inl ())))
def has22_d [Lk] : (List (Int × Int × Unit) × (Int × Int × Unit) × Unit) → Option ((Bool × Unit)) := fun (a0, a1, _) =>
 match iterL has22_s0 many (a0, a1.1, a1.2.1, 0, ()) with
 | none => none
 | some r => match r with
  | .inl (o0, _) => some (o0, ())
  | .inr r => match r with
   | .inl _ => some (false, ())
   | .inr _ => none
def has22 [Lk] := fun v => Lk.f (has22_d v)
theorem has22_eq v : has22 v = has22_d v := lock_eq _
-- archipelago/archipelagoref22.asked
abbrev asked22_i : Items := [(.tmp 0, .dat (.prod (.int .i64) (.prod (.slice (.prod (.int .i64) (.prod (.int .i64) (.prod (.int .i64) (.prod .bool .unit))))) .unit))), (.tmp 1, .dat (.slice (.prod (.int .i64) (.prod (.int .i64) .unit))))]
abbrev asked22_o : Items := [(.tmp 0, .di)]
abbrev asked22_r : List RS := [.one]
abbrev asked22_i0 : Items := [(.tmp 1, .dat (.slice (.prod (.int .i64) (.prod (.int .i64) .unit)))), (.tmp 2, .box 2), (.cell 0 0, .di), (.cell 0 1, .dat (.slice (.prod (.int .i64) (.prod (.int .i64) (.prod (.int .i64) (.prod .bool .unit)))))), (.tmp 5, .di)]
abbrev asked22_o0 : Outs := [(.ret, [(.tmp 4, .di)]), (.exit 0, [])]
def asked22_s0 [Lk] : (List (Int × Int × Unit) × Int × List (Int × Int × Int × Bool × Unit) × Int × Unit) → Option ((List (Int × Int × Unit) × Int × List (Int × Int × Int × Bool × Unit) × Int × Unit) ⊕ (Int × Unit) ⊕ (Unit) ⊕ Unit) := fun (a0, a1, a2, a3, _) =>
 match (ilt a3 (dlen a0)) with
 | true => match idx a0 a3 with
  | none => none
  | some x0 => match (ilt x0.1 0) with
   | true => some (.inr (.inl (10, ())))
   | false => match idx a0 a3 with
    | none => none
    | some x1 => match (ile a1 x1.1) with
     | true => some (.inr (.inl (10, ())))
     | false => match idx a0 a3 with
      | none => none
      | some x2 => match (ilt x2.2.1 0) with
       | true => some (.inr (.inl (10, ())))
       | false => match idx a0 a3 with
        | none => none
        | some x3 => match (ile a1 x3.2.1) with
         | true => some (.inr (.inl (10, ())))
         | false => some (.inl (a0, a1, a2, (IntKind.wrap .i64 (a3 + 1)), ()))
 | false => some (.inr (.inr (.inl ())))
def asked22_d [Lk] : ((Int × (List (Int × Int × Int × Bool × Unit)) × Unit) × List (Int × Int × Unit) × Unit) → Option ((Int × Unit)) := fun (a0, a1, _) =>
 match right21 ((a0.1, (a0.2.1, ())), ()) with
 | none => none
 | some (y0, _) => match (!y0) with
  | true => some (1, ())
  | false => match iterL asked22_s0 many (a1, a0.1, a0.2.1, 0, ()) with
   | none => none
   | some r => match r with
    | .inl (o1, _) => some (o1, ())
    | .inr r => match r with
     | .inl _ => some (0, ())
     | .inr _ => none
def asked22 [Lk] := fun v => Lk.f (asked22_d v)
theorem asked22_eq v : asked22 v = asked22_d v := lock_eq _
-- archipelago/archipelagoref22.Plain
abbrev plain22_i : Items := [(.tmp 0, .di), (.tmp 1, .dat (.slice (.prod (.int .i64) (.prod (.int .i64) .unit))))]
abbrev plain22_o : Items := [(.tmp 0, .own 72 (.prod (.int .i64) (.prod (.int .i64) .unit)))]
abbrev plain22_r : List RS := [.one]
abbrev plain22_i1 : Items := [(.tmp 0, .di), (.tmp 1, .dat (.slice (.prod (.int .i64) (.prod (.int .i64) .unit)))), (.tmp 5, .own 72 (.prod (.int .i64) (.prod (.int .i64) .unit))), (.tmp 6, .di), (.tmp 7, .di)]
abbrev plain22_o1 : Outs := [(.exit 2, [(.tmp 0, .di), (.tmp 1, .dat (.slice (.prod (.int .i64) (.prod (.int .i64) .unit)))), (.tmp 5, .own 72 (.prod (.int .i64) (.prod (.int .i64) .unit))), (.tmp 6, .di)])]
def plain22_s1 [Lk] : (Int × List (Int × Int × Unit) × List (Int × Int × Unit) × Int × Int × Unit) → Option ((Int × List (Int × Int × Unit) × List (Int × Int × Unit) × Int × Int × Unit) ⊕ (Int × List (Int × Int × Unit) × List (Int × Int × Unit) × Int × Unit) ⊕ Unit) := fun (a0, a1, a2, a3, a4, _) =>
 match (ilt a4 a0) with
 | true => match has22 (a1, (a3, (a4, ())), ()) with
  | none => none
  | some (y0, _) => match y0 with
   | true => match (fits ((dlen a2) + (dlen ([(a3, (a4, ()))] : List (Int × Int × Unit))))) with
    | true => some (.inl (a0, a1, (dapp a2 ([(a3, (a4, ()))] : List (Int × Int × Unit))), a3, (IntKind.wrap .i64 (a4 + 1)), ()))
    | false => none
   | false => match has22 (a1, (a4, (a3, ())), ()) with
    | none => none
    | some (y1, _) => match y1 with
     | true => match (fits ((dlen a2) + (dlen ([(a3, (a4, ()))] : List (Int × Int × Unit))))) with
      | true => some (.inl (a0, a1, (dapp a2 ([(a3, (a4, ()))] : List (Int × Int × Unit))), a3, (IntKind.wrap .i64 (a4 + 1)), ()))
      | false => none
     | false => some (.inl (a0, a1, a2, a3, (IntKind.wrap .i64 (a4 + 1)), ()))
 | false => some (.inr (.inl (a0, a1, a2, a3, ())))
abbrev plain22_i0 : Items := [(.tmp 0, .di), (.tmp 1, .dat (.slice (.prod (.int .i64) (.prod (.int .i64) .unit)))), (.tmp 5, .own 72 (.prod (.int .i64) (.prod (.int .i64) .unit))), (.tmp 6, .di)]
abbrev plain22_o0 : Outs := [(.exit 0, [(.tmp 5, .own 72 (.prod (.int .i64) (.prod (.int .i64) .unit)))])]
def plain22_s0 [Lk] : (Int × List (Int × Int × Unit) × List (Int × Int × Unit) × Int × Unit) → Option ((Int × List (Int × Int × Unit) × List (Int × Int × Unit) × Int × Unit) ⊕ (List (Int × Int × Unit) × Unit) ⊕ Unit) := fun (a0, a1, a2, a3, _) =>
 match (ilt a3 a0) with
 | true => match iterL plain22_s1 many (a0, a1, a2, a3, (IntKind.wrap .i64 (a3 + 1)), ()) with
  | none => none
  | some r => match r with
   | .inl (o0, o1, o2, o3, _) => some (.inl (o0, o1, o2, (IntKind.wrap .i64 (o3 + 1)), ()))
   | .inr _ => none
 | false => some (.inr (.inl (a2, ())))
def plain22_d [Lk] : (Int × List (Int × Int × Unit) × Unit) → Option ((List (Int × Int × Unit) × Unit)) := fun (a0, a1, _) =>
 match iterL plain22_s0 many (a0, a1, ([] : List (Int × Int × Unit)), 0, ()) with
 | none => none
 | some r => match r with
  | .inl (o0, _) => some (o0, ())
  | .inr _ => none
def plain22 [Lk] := fun v => Lk.f (plain22_d v)
theorem plain22_eq v : plain22 v = plain22_d v := lock_eq _
-- archipelago/archipelagoref22.New
abbrev new22_i : Items := [(.tmp 0, .dat (.prod (.int .i64) (.prod (.slice (.prod (.int .i64) (.prod (.int .i64) (.prod (.int .i64) (.prod .bool .unit))))) .unit))), (.tmp 1, .dat (.slice (.prod (.int .i64) (.prod (.int .i64) .unit))))]
abbrev new22_o : Items := [(.tmp 0, .own 72 (.prod (.int .i64) (.prod (.int .i64) .unit))), (.tmp 1, .di)]
abbrev new22_r : List RS := [.one, .one]
abbrev new22_i0 : Items := [(.tmp 7, .own 72 (.prod (.int .i64) (.prod (.int .i64) .unit))), (.tmp 8, .own 72 (.prod (.int .i64) (.prod (.int .i64) .unit))), (.tmp 9, .own 72 (.prod (.int .i64) (.prod (.int .i64) .unit))), (.tmp 10, .di)]
abbrev new22_o0 : Outs := [(.exit 0, [(.tmp 9, .own 72 (.prod (.int .i64) (.prod (.int .i64) .unit)))])]
def new22_s0 [Lk] : (List (Int × Int × Unit) × List (Int × Int × Unit) × List (Int × Int × Unit) × Int × Unit) → Option ((List (Int × Int × Unit) × List (Int × Int × Unit) × List (Int × Int × Unit) × Int × Unit) ⊕ (List (Int × Int × Unit) × Unit) ⊕ Unit) := fun (a0, a1, a2, a3, _) =>
 match (ilt a3 (dlen a1)) with
 | true => match idx a1 a3 with
  | none => none
  | some x0 => match has22 (a0, ((dget a1 (dnat a3) (0, (0, ()))).1, ((dget a1 (dnat a3) (0, (0, ()))).2.1, ())), ()) with
   | none => none
   | some (y1, _) => match (!y1) with
    | true => match idx a1 a3 with
     | none => none
     | some x2 => match (fits ((dlen a2) + (dlen ([((dget a1 (dnat a3) (0, (0, ()))).1, ((dget a1 (dnat a3) (0, (0, ()))).2.1, ()))] : List (Int × Int × Unit))))) with
      | true => some (.inl (a0, a1, (dapp a2 ([((dget a1 (dnat a3) (0, (0, ()))).1, ((dget a1 (dnat a3) (0, (0, ()))).2.1, ()))] : List (Int × Int × Unit))), (IntKind.wrap .i64 (a3 + 1)), ()))
      | false => none
    | false => some (.inl (a0, a1, a2, (IntKind.wrap .i64 (a3 + 1)), ()))
 | false => some (.inr (.inl (a2, ())))
def new22_d [Lk] : ((Int × (List (Int × Int × Int × Bool × Unit)) × Unit) × List (Int × Int × Unit) × Unit) → Option ((List (Int × Int × Unit) × Int × Unit)) := fun (a0, a1, _) =>
 match asked22 ((a0.1, (a0.2.1, ())), a1, ()) with
 | none => none
 | some (y0, _) => match (!(ieq y0 0)) with
  | true => some (([] : List (Int × Int × Unit)), y0, ())
  | false => match edges21 ((a0.1, (a0.2.1, ())), ()) with
   | none => none
   | some (y1, _) => match plain22 (a0.1, a1, ()) with
    | none => none
    | some (y2, _) => match iterL new22_s0 many (y1, y2, ([] : List (Int × Int × Unit)), 0, ()) with
     | none => none
     | some r => match r with
      | .inl (o3, _) => some (o3, 0, ())
      | .inr _ => none
def new22 [Lk] := fun v => Lk.f (new22_d v)
theorem new22_eq v : new22 v = new22_d v := lock_eq _
-- archipelago/archipelagoref22.Fits
abbrev fits22_i : Items := [(.tmp 0, .dat (.prod (.int .i64) (.prod (.slice (.prod (.int .i64) (.prod (.int .i64) (.prod (.int .i64) (.prod .bool .unit))))) .unit))), (.tmp 1, .dat (.slice (.prod (.int .i64) (.prod (.int .i64) .unit))))]
abbrev fits22_o : Items := [(.tmp 0, .dat .bool)]
abbrev fits22_r : List RS := [.one]
def fits22_d [Lk] : ((Int × (List (Int × Int × Int × Bool × Unit)) × Unit) × List (Int × Int × Unit) × Unit) → Option ((Bool × Unit)) := fun (a0, a1, _) =>
 match new22 ((a0.1, (a0.2.1, ())), a1, ()) with
 | none => none
 | some (y0, y1, _) => match (ieq y1 0) with
  | true => some ((ile (IntKind.wrap .i64 ((dlen y0) + (dlen a0.2.1))) 400), ())
  | false => some (false, ())
def fits22 [Lk] := fun v => Lk.f (fits22_d v)
theorem fits22_eq v : fits22 v = fits22_d v := lock_eq _
-- archipelago/archipelagoref22.Put
abbrev put22_i : Items := [(.tmp 0, .dat (.slice (.prod (.int .i64) (.prod (.int .i64) (.prod (.int .i64) (.prod .bool .unit)))))), (.tmp 1, .dat (.prod (.int .i64) (.prod (.int .i64) (.prod (.int .i64) (.prod .bool .unit)))))]
abbrev put22_o : Items := [(.tmp 0, .own 42 (.prod (.int .i64) (.prod (.int .i64) (.prod (.int .i64) (.prod .bool .unit)))))]
abbrev put22_r : List RS := [.one]
abbrev put22_i0 : Items := [(.tmp 0, .dat (.slice (.prod (.int .i64) (.prod (.int .i64) (.prod (.int .i64) (.prod .bool .unit)))))), (.tmp 3, .box 4), (.cell 0 0, .di), (.cell 0 1, .di), (.cell 0 2, .di), (.cell 0 3, .dat .bool), (.tmp 5, .di)]
abbrev put22_o0 : Outs := [(.exit 0, [(.tmp 0, .dat (.slice (.prod (.int .i64) (.prod (.int .i64) (.prod (.int .i64) (.prod .bool .unit)))))), (.tmp 3, .box 4), (.cell 0 0, .di), (.cell 0 1, .di), (.cell 0 2, .di), (.cell 0 3, .dat .bool), (.tmp 5, .di)])]
def put22_s0 [Lk] : (List (Int × Int × Int × Bool × Unit) × Int × Int × Int × Bool × Int × Unit) → Option ((List (Int × Int × Int × Bool × Unit) × Int × Int × Int × Bool × Int × Unit) ⊕ (List (Int × Int × Int × Bool × Unit) × Int × Int × Int × Bool × Int × Unit) ⊕ Unit) := fun (a0, a1, a2, a3, a4, a5, _) =>
 match (ilt a5 (dlen a0)) with
 | true => match idx a0 a5 with
  | none => none
  | some x0 => match (ilt x0.1 a1) with
   | true => some (.inl (a0, a1, a2, a3, a4, (IntKind.wrap .i64 (a5 + 1)), ()))
   | false => match idx a0 a5 with
    | none => none
    | some x1 => match (ieq x1.1 a1) with
     | true => match idx a0 a5 with
      | none => none
      | some x2 => match (ilt x2.2.1 a2) with
       | true => some (.inl (a0, a1, a2, a3, a4, (IntKind.wrap .i64 (a5 + 1)), ()))
       | false => some (.inr (.inl (a0, a1, a2, a3, a4, a5, ())))
     | false => some (.inr (.inl (a0, a1, a2, a3, a4, a5, ())))
 | false => some (.inr (.inl (a0, a1, a2, a3, a4, a5, ())))
def put22_d [Lk] : (List (Int × Int × Int × Bool × Unit) × (Int × Int × Int × Bool × Unit) × Unit) → Option ((List (Int × Int × Int × Bool × Unit) × Unit)) := fun (a0, a1, _) =>
 match iterL put22_s0 many (a0, a1.1, a1.2.1, a1.2.2.1, a1.2.2.2.1, 0, ()) with
 | none => none
 | some r => match r with
  | .inl (o0, o1, o2, o3, o4, o5, _) => match subl o0 0 o5 with
   | none => none
   | some x6 => match (fits ((dlen ([] : List (Int × Int × Int × Bool × Unit))) + (dlen x6))) with
    | true => match (fits ((dlen (dapp ([] : List (Int × Int × Int × Bool × Unit)) x6)) + (dlen ([(o1, (o2, (o3, (o4, ()))))] : List (Int × Int × Int × Bool × Unit))))) with
     | true => match subl o0 o5 (dlen o0) with
      | none => none
      | some x7 => match (fits ((dlen (dapp (dapp ([] : List (Int × Int × Int × Bool × Unit)) x6) ([(o1, (o2, (o3, (o4, ()))))] : List (Int × Int × Int × Bool × Unit)))) + (dlen x7))) with
       | true => some ((dapp (dapp (dapp ([] : List (Int × Int × Int × Bool × Unit)) x6) ([(o1, (o2, (o3, (o4, ()))))] : List (Int × Int × Int × Bool × Unit))) x7), ())
       | false => none
     | false => none
    | false => none
  | .inr _ => none
def put22 [Lk] := fun v => Lk.f (put22_d v)
theorem put22_eq v : put22 v = put22_d v := lock_eq _
-- archipelago/archipelagoref22.Add
abbrev add22_i : Items := [(.tmp 0, .dat (.prod (.int .i64) (.prod (.slice (.prod (.int .i64) (.prod (.int .i64) (.prod (.int .i64) (.prod .bool .unit))))) .unit))), (.tmp 1, .dat (.slice (.prod (.int .i64) (.prod (.int .i64) .unit))))]
abbrev add22_o : Items := [(.tmp 0, .di), (.tmp 1, .dat (.slice (.prod (.int .i64) (.prod (.int .i64) (.prod (.int .i64) (.prod .bool .unit)))))), (.tmp 2, .di), (.tmp 3, .di)]
abbrev add22_r : List RS := [.agg 2, .one, .one]
abbrev add22_i0 : Items := [(.tmp 4, .box 2), (.cell 0 0, .di), (.cell 0 1, .nil (.prod (.int .i64) (.prod (.int .i64) (.prod (.int .i64) (.prod .bool .unit))))), (.tmp 7, .own 72 (.prod (.int .i64) (.prod (.int .i64) .unit))), (.tmp 11, .own 4 .bool), (.tmp 13, .box 2), (.cell 3 0, .di), (.cell 3 1, .own 42 (.prod (.int .i64) (.prod (.int .i64) (.prod (.int .i64) (.prod .bool .unit))))), (.tmp 14, .di)]
abbrev add22_o0 : Outs := [(.exit 0, [(.tmp 4, .box 2), (.cell 0 0, .di), (.cell 0 1, .nil (.prod (.int .i64) (.prod (.int .i64) (.prod (.int .i64) (.prod .bool .unit))))), (.tmp 7, .own 72 (.prod (.int .i64) (.prod (.int .i64) .unit))), (.tmp 13, .box 2), (.cell 2 0, .di), (.cell 2 1, .own 42 (.prod (.int .i64) (.prod (.int .i64) (.prod (.int .i64) (.prod .bool .unit)))))])]
def add22_s0 [Lk] : (Int × List (Int × Int × Unit) × List Bool × Int × List (Int × Int × Int × Bool × Unit) × Int × Unit) → Option ((Int × List (Int × Int × Unit) × List Bool × Int × List (Int × Int × Int × Bool × Unit) × Int × Unit) ⊕ (Int × List (Int × Int × Unit) × Int × List (Int × Int × Int × Bool × Unit) × Unit) ⊕ Unit) := fun (a0, a1, a2, a3, a4, a5, _) =>
 match (ilt a5 (dlen a1)) with
 | true => match idx a1 a5 with
  | none => none
  | some x0 => match idx a1 a5 with
   | none => none
   | some x1 => match idx a2 a5 with
    | none => none
    | some x2 => match put22 (a4, ((dget a1 (dnat a5) (0, (0, ()))).1, ((dget a1 (dnat a5) (0, (0, ()))).2.1, (0, ((dget a2 (dnat a5) false), ())))), ()) with
     | none => none
     | some (y3, _) => some (.inl (a0, a1, a2, a3, y3, (IntKind.wrap .i64 (a5 + 1)), ()))
 | false => some (.inr (.inl (a0, a1, a3, a4, ())))
def add22_d [Lk] : ((Int × (List (Int × Int × Int × Bool × Unit)) × Unit) × List (Int × Int × Unit) × Unit) → Option ((Int × List (Int × Int × Int × Bool × Unit) × Int × Int × Unit)) := fun (a0, a1, _) =>
 match new22 ((a0.1, (a0.2.1, ())), a1, ()) with
 | none => none
 | some (y0, y1, _) => match (!(ieq y1 0)) with
  | true => some (a0.1, a0.2.1, 0, y1, ())
  | false => match fits22 ((a0.1, (a0.2.1, ())), a1, ()) with
   | none => none
   | some (y2, _) => match (!y2) with
    | true => some (a0.1, a0.2.1, 0, 2, ())
    | false => match forest21 ((a0.1, (a0.2.1, ())), 0, ()) with
     | none => none
     | some (y3, y4, _) => match choose20 ((y3.1, (y3.2.1, ())), y0, ()) with
      | none => none
      | some (y5, y6, _) => match (fits ((dlen ([] : List (Int × Int × Int × Bool × Unit))) + (dlen a0.2.1))) with
       | true => match iterL add22_s0 many (0, y0, y5, a0.1, (dapp ([] : List (Int × Int × Int × Bool × Unit)) a0.2.1), 0, ()) with
        | none => none
        | some r => match r with
         | .inl (o7, o8, o9, o10, _) => some (o9, o10, (dlen o8), 0, ())
         | .inr _ => none
       | false => none
def add22 [Lk] := fun v => Lk.f (add22_d v)
theorem add22_eq v : add22 v = add22_d v := lock_eq _
-- archipelago/archipelagoref22.Joined
abbrev joined22_i : Items := [(.tmp 0, .dat (.prod (.int .i64) (.prod (.slice (.prod (.int .i64) (.prod (.int .i64) (.prod (.int .i64) (.prod .bool .unit))))) .unit))), (.tmp 1, .dat (.slice (.prod (.int .i64) (.prod (.int .i64) .unit))))]
abbrev joined22_o : Items := [(.tmp 0, .di), (.tmp 1, .di)]
abbrev joined22_r : List RS := [.one, .one]
def joined22_d [Lk] : ((Int × (List (Int × Int × Int × Bool × Unit)) × Unit) × List (Int × Int × Unit) × Unit) → Option ((Int × Int × Unit)) := fun (a0, a1, _) =>
 match new22 ((a0.1, (a0.2.1, ())), a1, ()) with
 | none => none
 | some (y0, y1, _) => match (!(ieq y1 0)) with
  | true => some (0, y1, ())
  | false => match edges21 ((a0.1, (a0.2.1, ())), ()) with
   | none => none
   | some (y2, _) => match count20 (a0.1, y2, ()) with
    | none => none
    | some (y3, y4, _) => match (fits ((dlen y2) + (dlen y0))) with
     | true => match count20 (a0.1, (dapp y2 y0), ()) with
      | none => none
      | some (y5, y6, _) => some ((IntKind.wrap .i64 (y3 - y5)), 0, ())
     | false => none
def joined22 [Lk] := fun v => Lk.f (joined22_d v)
theorem joined22_eq v : joined22 v = joined22_d v := lock_eq _
-- archipelago/archipelagolaw27.alive
abbrev alive27_i : Items := []
abbrev alive27_o : Items := [(.tmp 0, .dat .bool)]
abbrev alive27_r : List RS := [.one]
def alive27_d [Lk] : (Unit) → Option ((Bool × Unit)) := fun _ =>
 match sanswers ((4, (([(0, (2, (0, (true, ())))), (2, (3, (0, (true, ()))))] : List (Int × Int × Int × Bool × Unit)), ())), ([(1, (3, (0, ()))), (1, (1, (0, ()))), (2, (3, (0, ()))), (3, (2, (0, ()))), (4, (0, (0, ())))] : List (Int × Int × Int × Unit)), ()) with
 | none => none
 | some (y0, y1, _) => match sanswer ((4, (([(0, (2, (0, (true, ())))), (2, (3, (0, (true, ()))))] : List (Int × Int × Int × Bool × Unit)), ())), (2, (4, (0, ()))), ()) with
  | none => none
  | some (y2, y3, _) => match sencode ((2, (259, (([1, 65535] : List (Int)), ()))), ()) with
   | none => none
   | some (y4, y5, _) => match (fits ((dlen y4) + (dlen ([9] : List (Int))))) with
    | true => match sdecode ((dapp y4 ([9] : List (Int))), ()) with
     | none => none
     | some (y6, y7, y8, y9, y10, _) => match sdecode (([0, 0, 0, 0, 1, 5] : List (Int)), ()) with
      | none => none
      | some (y11, y12, y13, y14, y15, _) => match (ieq y1 0) with
       | true => match (ieq y3 10) with
        | true => match (ieq y5 0) with
         | true => match (ieq y10 0) with
          | true => match (ieq y15 7) with
           | true => match (ieq y14 6) with
            | true => match ints01 (y0, ([1, 0, 0, 3, 2] : List (Int)), ()) with
             | none => none
             | some (y16, _) => match y16 with
              | true => match (seq? (dbytes y4) ([2, 1, 3, 0, 2, 0, 1, 255, 255] : List (Int))) with
               | true => match (ieq y9 9) with
                | true => match ssame ((y6, (y7, (y8, ()))), (2, (259, (([1, 65535] : List (Int)), ()))), ()) with
                 | none => none
                 | some (y17, _) => some (y17, ())
                | false => some (false, ())
               | false => some (false, ())
              | false => some (false, ())
            | false => some (false, ())
           | false => some (false, ())
          | false => some (false, ())
         | false => some (false, ())
        | false => some (false, ())
       | false => some (false, ())
    | false => none
def alive27 [Lk] := fun v => Lk.f (alive27_d v)
theorem alive27_eq v : alive27 v = alive27_d v := lock_eq _
-- archipelago/archipelagolaw27.great
abbrev great27_i : Items := [(.tmp 0, .dat (.prod (.int .i64) (.prod (.slice (.prod (.int .i64) (.prod (.int .i64) (.prod (.int .i64) (.prod .bool .unit))))) .unit)))]
abbrev great27_o : Items := [(.tmp 0, .dat .bool)]
abbrev great27_r : List RS := [.one]
def great27_d [Lk] : ((Int × (List (Int × Int × Int × Bool × Unit)) × Unit) × Unit) → Option ((Bool × Unit)) := fun (a0, _) =>
 match (ilt 40 (dlen a0.2.1)) with
 | true => some (true, ())
 | false => some ((ilt 12 a0.1), ())
def great27 [Lk] := fun v => Lk.f (great27_d v)
theorem great27_eq v : great27 v = great27_d v := lock_eq _
-- archipelago/archipelagolaw27.SayGrows
abbrev sayGrows_i : Items := [(.tmp 0, .dat (.prod (.int .i64) (.prod (.slice (.prod (.int .i64) (.prod (.int .i64) (.prod (.int .i64) (.prod .bool .unit))))) .unit))), (.tmp 1, .dat (.slice (.prod (.int .i64) (.prod (.int .i64) .unit)))), (.tmp 2, .dat (.arr 2 (.int .u8)))]
abbrev sayGrows_o : Items := [(.tmp 0, .dat .bool)]
abbrev sayGrows_r : List RS := [.one]
def sayGrows_d [Lk] : ((Int × (List (Int × Int × Int × Bool × Unit)) × Unit) × List (Int × Int × Unit) × List Int × Unit) → Option ((Bool × Unit)) := fun (a0, a1, a2, _) =>
 match alive27 () with
 | none => none
 | some (y0, _) => match (!y0) with
  | true => some (false, ())
  | false => match great27 ((a0.1, (a0.2.1, ())), ()) with
   | none => none
   | some (y1, _) => match y1 with
    | true => some (true, ())
    | false => match (ilt 20 (dlen a1)) with
     | true => some (true, ())
     | false => match add22 ((a0.1, (a0.2.1, ())), a1, ()) with
      | none => none
      | some (y2, y3, y4, y5, _) => match (!(ieq y5 0)) with
       | true => some (true, ())
       | false => match rem? (IntKind.wrap .i64 (dget a2 0 0)) a0.1 with
        | none => none
        | some x6 => match rem? (IntKind.wrap .i64 (dget a2 1 0)) a0.1 with
         | none => none
         | some x7 => match sanswer ((a0.1, (a0.2.1, ())), (1, (x6, (x7, ()))), ()) with
          | none => none
          | some (y8, y9, _) => match sanswer ((y2, (y3, ())), (1, (x6, (x7, ()))), ()) with
           | none => none
           | some (y10, y11, _) => match sanswer ((a0.1, (a0.2.1, ())), (4, (0, (0, ()))), ()) with
            | none => none
            | some (y12, y13, _) => match sanswer ((y2, (y3, ())), (4, (0, (0, ()))), ()) with
             | none => none
             | some (y14, y15, _) => match sanswer ((a0.1, (a0.2.1, ())), (3, (x6, (0, ()))), ()) with
              | none => none
              | some (y16, y17, _) => match sanswer ((y2, (y3, ())), (3, (x6, (0, ()))), ()) with
               | none => none
               | some (y18, y19, _) => match joined22 ((a0.1, (a0.2.1, ())), a1, ()) with
                | none => none
                | some (y20, y21, _) => match (ieq y9 0) with
                 | true => match (ieq y11 0) with
                  | true => match (ieq y13 0) with
                   | true => match (ieq y15 0) with
                    | true => match (ieq y17 0) with
                     | true => match (ieq y19 0) with
                      | true => match (ieq y21 0) with
                       | true => match (ile y8 y10) with
                        | true => match (ieq y14 (IntKind.wrap .i64 (y12 - y20))) with
                         | true => some ((ile y16 y18), ())
                         | false => some (false, ())
                        | false => some (false, ())
                       | false => some (false, ())
                      | false => some (false, ())
                     | false => some (false, ())
                    | false => some (false, ())
                   | false => some (false, ())
                  | false => some (false, ())
                 | false => some (false, ())
def sayGrows [Lk] := fun v => Lk.f (sayGrows_d v)
theorem sayGrows_eq v : sayGrows v = sayGrows_d v := lock_eq _
-- archipelago/grow.compare
-- slices.insertionSortCmpFunc[archipelago/api.Edge]
-- slices.siftDownCmpFunc[archipelago/api.Edge]
-- slices.heapSortCmpFunc[archipelago/api.Edge]
-- slices.breakPatternsCmpFunc[archipelago/api.Edge]
-- slices.order2CmpFunc[archipelago/api.Edge]
-- slices.medianCmpFunc[archipelago/api.Edge]
-- slices.medianAdjacentCmpFunc[archipelago/api.Edge]
-- slices.choosePivotCmpFunc[archipelago/api.Edge]
-- slices.reverseRangeCmpFunc[archipelago/api.Edge]
-- slices.partialInsertionSortCmpFunc[archipelago/api.Edge]
-- slices.partitionEqualCmpFunc[archipelago/api.Edge]
-- slices.partitionCmpFunc[archipelago/api.Edge]
-- slices.pdqsortCmpFunc[archipelago/api.Edge]
-- slices.SortFunc[[]archipelago/api.Edge,archipelago/api.Edge]
end
end Go.Pev
end
section
namespace Go.Pev
set_option maxRecDepth 100000
noncomputable section
attribute [local irreducible] fitsR fitsIR idxR sublR iltR ileR ieqR quoR remR shlR shrR cloneR iterO many IntKind.wrap dlen dset dget dapp dtake dcut drep dnat dclear imin imax lookupM storeM
-- archipelago/grow.Add$1
-- slices.insertionSortCmpFunc[archipelago/api.Tie]
-- slices.siftDownCmpFunc[archipelago/api.Tie]
-- slices.heapSortCmpFunc[archipelago/api.Tie]
-- slices.breakPatternsCmpFunc[archipelago/api.Tie]
-- slices.order2CmpFunc[archipelago/api.Tie]
-- slices.medianCmpFunc[archipelago/api.Tie]
-- slices.medianAdjacentCmpFunc[archipelago/api.Tie]
-- slices.choosePivotCmpFunc[archipelago/api.Tie]
-- slices.reverseRangeCmpFunc[archipelago/api.Tie]
-- slices.partialInsertionSortCmpFunc[archipelago/api.Tie]
-- slices.partitionEqualCmpFunc[archipelago/api.Tie]
-- slices.partitionCmpFunc[archipelago/api.Tie]
-- slices.pdqsortCmpFunc[archipelago/api.Tie]
-- slices.SortFunc[[]archipelago/api.Tie,archipelago/api.Tie]
-- slices.Grow[[]archipelago/api.Edge,archipelago/api.Edge]
-- slices.Concat[[]archipelago/api.Edge,archipelago/api.Edge]
-- archipelago/level.Forest
-- archipelago/span.Contract
-- archipelago/span.Choose
-- archipelago/span.Count
-- archipelago/grow.New
-- archipelago/grow.room
-- archipelago/grow.Fits
end
end Go.Pev
end
section
namespace Go.Pev
set_option maxRecDepth 100000
noncomputable section
attribute [local irreducible] fitsR fitsIR idxR sublR iltR ileR ieqR quoR remR shlR shrR cloneR iterO many IntKind.wrap dlen dset dget dapp dtake dcut drep dnat dclear imin imax lookupM storeM
-- archipelago/grow.Add
-- archipelago/grow.Joined
-- archipelago/archipelagolaw22.alive
-- archipelago/archipelagolaw22.great
-- archipelago/archipelagolaw22.GrowStays
-- archipelago/archipelagolaw22.GrowTrees
end
end Go.Pev
end
section

end
section
namespace Go.Pev.Pl
theorem wrap_in {n : Int} (h : -9223372036854775808 ≤ n ∧ n ≤ 9223372036854775807) : IntKind.wrap .i64 n = n := IntWalk.i64_in n h
theorem iter_rule {σ ρ : Type} {step : σ → Option (σ ⊕ ρ)} (I : σ → Prop) (Q : ρ → Prop) (m : σ → Nat)
    (h : ∀ v, I v → (∃ v', step v = some (.inl v') ∧ I v' ∧ m v' < m v) ∨ (∃ r, step v = some (.inr r) ∧ Q r)) :
    ∀ n v, I v → m v < n → ∃ r, iterO step n v = some r ∧ Q r := by
  intro n
  induction n with
  | zero => intro v _ hn; omega
  | succ n ih =>
    intro v hv hn
    rcases h v hv with ⟨v', e, hi, hm⟩ | ⟨r, e, hq⟩
    · rw [iterO, e]
      exact ih v' hi (by omega)
    · rw [iterO, e]
      exact ⟨r, rfl, hq⟩
theorem iterL_rule {σ ρ : Type} {step : σ → Option (σ ⊕ ρ)} (I : σ → Prop) (Q : ρ → Prop) (m : σ → Nat)
    (h : ∀ v, I v → (∃ v', step v = some (.inl v') ∧ I v' ∧ m v' < m v) ∨ (∃ r, step v = some (.inr r) ∧ Q r))
    (v : σ) (hi : I v) (hm : m v < many) : ∃ r, iterL step many v = some r ∧ Q r := by
  rw [iterL_eq]
  exact iter_rule I Q m h many v hi hm
section
set_option linter.unusedSectionVars false
variable {α : Type} [Inhabited α]
theorem idx_at {d : Array α} {n : Nat} (h : n < d.size) : idx d.toList (n : Int) = some d[n]! := by
  rw [idx_eq, idxR, if_neg (by omega)]
  simp [h]
theorem dget_at {d : Array α} {n : Nat} {z : α} (h : n < d.size) : dget d.toList (dnat (n : Int)) z = d[n]! := by
  simp [dget, dnat, h]
theorem dset_at {d : Array α} {n : Nat} {x : α} : dset d.toList (dnat (n : Int)) x = (d.setIfInBounds n x).toList := by
  simp [dset, dnat]
theorem dlen_at {d : Array α} : dlen d.toList = (d.size : Int) := by simp [dlen]
theorem swp_fold (d : Array α) (i j : Nat) : (d.setIfInBounds i d[j]!).setIfInBounds j d[i]! = Go.Sort.swp d i j := rfl
theorem size_swp (d : Array α) (i j : Nat) : (Go.Sort.swp d i j).size = d.size := by simp [Go.Sort.swp]
end
theorem ilt_nat (a b : Nat) : ilt (a : Int) (b : Int) = decide (a < b) := by rw [ilt_eq]; simp
theorem ile_nat (a b : Nat) : ile (a : Int) (b : Int) = decide (a ≤ b) := by rw [ile_eq]; simp
theorem ieq_nat (a b : Nat) : ieq (a : Int) (b : Int) = decide (a = b) := by
  rw [ieq_eq]
  by_cases h : a = b
  · simp [h]
  · simp [h]; omega
section
theorem wrap_add {a b : Nat} (h : a + b < 9223372036854775808) : IntKind.wrap .i64 ((a : Int) + (b : Int)) = ((a + b : Nat) : Int) := by rw [wrap_in (by omega)]; omega
theorem wrap_add1 {a : Nat} (h : a + 1 < 9223372036854775808) : IntKind.wrap .i64 ((a : Int) + 1) = ((a + 1 : Nat) : Int) := by rw [wrap_in (by omega)]; omega
theorem wrap_2mul {a : Nat} (h : 2 * a < 9223372036854775808) : IntKind.wrap .i64 ((2 : Int) * (a : Int)) = ((2 * a : Nat) : Int) := by rw [wrap_in (by omega)]; omega
theorem wrap_mul1 {a : Nat} (h : a < 9223372036854775808) : IntKind.wrap .i64 ((a : Int) * 1) = ((a * 1 : Nat) : Int) := by rw [wrap_in (by omega)]; omega
theorem wrap_mul2 {a : Nat} (h : a * 2 < 9223372036854775808) : IntKind.wrap .i64 ((a : Int) * 2) = ((a * 2 : Nat) : Int) := by rw [wrap_in (by omega)]; omega
theorem wrap_mul3 {a : Nat} (h : a * 3 < 9223372036854775808) : IntKind.wrap .i64 ((a : Int) * 3) = ((a * 3 : Nat) : Int) := by rw [wrap_in (by omega)]; omega
theorem wrap_sub {a b : Nat} (h : b ≤ a ∧ a < 9223372036854775808) : IntKind.wrap .i64 ((a : Int) - (b : Int)) = ((a - b : Nat) : Int) := by rw [wrap_in (by omega)]; omega
theorem wrap_sub1 {a : Nat} (h : 1 ≤ a ∧ a < 9223372036854775808) : IntKind.wrap .i64 ((a : Int) - 1) = ((a - 1 : Nat) : Int) := by rw [wrap_in (by omega)]; omega
theorem quo_2 {a : Nat} (h : a < 9223372036854775808) : quo? .i64 (a : Int) 2 = some ((a / 2 : Nat) : Int) := by
  rw [quo_eq, quoR, if_neg (by omega), Int.tdiv_eq_ediv_of_nonneg (by omega), wrap_in (by omega)]; rfl
theorem quo_4 {a : Nat} (h : a < 9223372036854775808) : quo? .i64 (a : Int) 4 = some ((a / 4 : Nat) : Int) := by
  rw [quo_eq, quoR, if_neg (by omega), Int.tdiv_eq_ediv_of_nonneg (by omega), wrap_in (by omega)]; rfl
theorem quo_8 {a : Nat} (h : a < 9223372036854775808) : quo? .i64 (a : Int) 8 = some ((a / 8 : Nat) : Int) := by
  rw [quo_eq, quoR, if_neg (by omega), Int.tdiv_eq_ediv_of_nonneg (by omega), wrap_in (by omega)]; rfl
end
end Go.Pev.Pl
end
