/- A part of the proofs of this seat: PevOps7 PevOps8 PevOps9 PevOps10 PevKeep PevPrs PevOps12 PevMore PevKeys PevKeys2 PevOps11 PevCode PevLocal PevDraw PevDraw2 PevDec PevDec2 PevFlow. -/
import Derived.Test.YtaamkoofmojajaaGreatPfc17c8ed91
import Derived.IntWalk
import Derived.Laws.StructEq
import Derived.Laws.BytesArg
set_option linter.unusedVariables false
set_option linter.unusedSimpArgs false
set_option linter.unusedSectionVars false
section
namespace Go.Pev
open Go.RowKit
section
variable {P : Program} {E : Env}
theorem AL9 {T : TypeId} {size : Nat} {ag : Bool} (h : elemAt P T = some (size, ag)) : ∃ n e i, P.underlying T = some (.array n e) ∧ P.info? e = some i ∧ i.size = size ∧ F4 P e = some ag := by
 unfold elemAt at h
 split at h
 ·rename_i n e hu
  split at h
  ·rename_i i ag' hi ha
   simp only [Option.some.injEq, Prod.mk.injEq] at h
   obtain ⟨rfl, rfl⟩ := h
   exact ⟨n, e, i, hu, hi, rfl, ha⟩
  ·cases h
 ·cases h
theorem AB8 {x : Operand} {s : ByteArray} (h : AAH x = some s) : x = .const (.string s) := by
 unfold AAH at h
 split at h
 ·simp only [Option.some.injEq] at h; subst h; rfl
 ·cases h
theorem AMS (T : TypeId) (x y : Operand) : Claim P E (.index T x y) := by
 intro R ty ρ H fz slot k r h
 simp only [evalOp] at h
 split at h
 ·rename_i s hcs
  split at h
  ·rename_i j i hu hy
   split at h
   ·rename_i b hb
    refine ⟨_, _, h, fun R' k' => by simp only [evalOp, hcs, hu, hy, hb], fun w F m a o next Q hop hty hi hr hn => ?_⟩
    have e2 := BA (hy ▸ hr y)
    have hx := AB8 hcs
    subst hx
    rw [idx_eq] at hb
    unfold NP at hb
    split at hb
    ·cases hb
    ·rename_i hi0
     have hi1 : (0 : Int) ≤ i := Int.not_lt.1 hi0
     have he : a.eval (.const (.string s)) = .string s := rfl
     have hrun : (execOp a.eval o).run P w = .ok (.value (.int .u8 b)) w := by
      have hb' : s[i.toNat]? = some (UInt8.ofNat b.toNat) ∧ ((UInt8.ofNat b.toNat).toNat : Int) = b := by
       unfold bytesOf at hb
       rw [List.getElem?_map, Option.map_eq_some_iff] at hb
       obtain ⟨c, h1, rfl⟩ := hb
       have e : UInt8.ofNat (c.toNat : Int).toNat = c := by simp
       rw [e]
       refine ⟨?_, rfl⟩
       rw [Array.getElem?_toList] at h1
       have hlt : i.toNat < s.data.size := by
        rcases Nat.lt_or_ge i.toNat s.data.size with h' | h'
        ·exact h'
        ·rw [Array.getElem?_eq_none h'] at h1; cases h1
       rw [Array.getElem?_eq_getElem hlt] at h1
       simp only [Option.some.injEq] at h1
       have hlt2 : i.toNat < s.size := hlt
       rw [getElem?_pos s i.toNat hlt2]
       exact congrArg some h1
      have h2 := hb'.2
      generalize UInt8.ofNat b.toNat = c at hb' h2
      subst h2
      simp [execOp, hop, e2, he, Instr.index, asIntOf, run_underlying hu, hi1, hb'.1]
     unfold Oper.wp
     rw [hrun]
     have := hn (.int .u8 b) w F m (Ax.refl hi) (As _ _)
     exact this
   ·cases h
  ·cases h
 ·rename_i hcs
  split at h
  ·rename_i size ag n e j i he hu hy
   split at h
   ·rename_i hd
    split at h
    ·rename_i cs hc hag
     split at h
     ·rename_i v hl
      refine ⟨_, _, h, fun R' k' => by simp only [evalOp, hcs, he, hu, hy, hd, hc, hag, hl], AY fun w F m ρc o hop hty hi hr => ?_⟩
      obtain ⟨n', e', i', hu', hi0, rfl, ha⟩ := AL9 he
      rw [hu] at hu'; cases hu'
      simp only [decide_eq_true_eq] at hd
      obtain ⟨vs, e1⟩ := Pg hag (hr x)
      have e2 := BA (hy ▸ hr y)
      have hrc := cells?_ok hc (hr x)
      have h1 := cells?_one hc (hr x)
      rw [e1] at hrc h1
      obtain ⟨u, q1, q2⟩ := AJL (P := P) hi0 ha hl hrc h1
      refine ⟨u, ?_, q2⟩
      simp only [Value.cells] at q1
      have hd1 : 0 ≤ i := hd.1
      have hd2 : i < (n : Int) := hd.2
      simp [execOp, hop, e1, e2, Instr.index, asIntOf, run_underlying hu, hd1, hd2, run_sizeOf hi0, q1]
     ·cases h
    ·cases h
   ·cases h
  ·cases h
theorem Dm {w : World} {T e : TypeId} {i : TypeInfo} (hu : P.underlying T = some (.slice e)) (hi : P.info? e = some i) (ad : Addr) (len cap : Nat) (k : IntKind) {n : Int} (h0 : 0 ≤ n) (h1 : n < len) :
  (Instr.indexAt T (.slice (some ad) len cap) (.int k n)).run P w = .ok (.pointer (some (ad.add (n.toNat * i.size)))) w := by
 simp [Instr.indexAt, asIntOf, run_underlying hu, h0, h1, run_sizeOf hi]
theorem Bz {w w' : World} {ρc : Operand → Value} {o : Oper} {T : TypeId} {x y : Operand} {v n u : Value} (hop : o.op = .indexAddr T x y) (e1 : ρc x = v) (e2 : ρc y = n)
  (hrun : (Instr.indexAt T v n).run P w = .ok u w') : (execOp ρc o).run P w = .ok (.value u) w' := by simp [execOp, hop, e1, e2, hrun]
theorem VU (T : TypeId) (x y : Operand) : Claim P E (.indexAddr T x y) := by
 intro R ty ρ H fz slot k r h
 simp only [evalOp] at h
 split at h
 ·rename_i e j i hu hy
  split at h
  ·rename_i t xs hx
   split at h
   ·rename_i hsz
    split at h
    ·rename_i d hd
     refine ⟨_, _, h, fun R' k' => by simp only [evalOp, hu, hy, hx, hsz, hd], AY fun w F m ρc o hop hty hi hr => ?_⟩
     simp only [decide_eq_true_eq] at hsz
     obtain ⟨i', hi0, hsz'⟩ := BQ hsz
     obtain ⟨a1, a2, a3⟩ := Ah hd
     have hrx := hr x
     rw [hx] at hrx
     have hrx : Dat w F (.slice t) xs [ρc x] := hrx
     obtain ⟨a, cap, e1, e2, e3⟩ := hrx
     simp only [List.cons.injEq, and_true] at e1
     have hne : xs ≠ [] := by rintro rfl; simp at a3
     obtain ⟨ad, row, rfl, q2, q3, q4⟩ := e3 hne
     have hk := fun (x : t.den) cs (h : Dat w F t x cs) => Dat.length t h
     have hg := XN hk q3 a3
     refine ⟨_, Bz hop e1 (BA (hy ▸ hr y)) (Dm hu hi0 ad _ cap j a1 a2), ?_⟩
     unfold Rep
     refine ⟨_, (row.drop (i.toNat * t.size)).take t.size, rfl, fun _ => by rw [MA]; exact q2, HL t hg, Dat.Hk t hg, fun k u hu' => ?_⟩
     rw [add_add, hsz']
     rw [List.getElem?_take] at hu'
     split at hu'
     ·rw [List.getElem?_drop] at hu'
      exact q4 _ u hu'
     ·cases hu'
    ·cases h
   ·cases h
  ·rename_i id hx
   split at h
   ·rename_i T' t xs ho
    split at h
    ·rename_i hsz
     split at h
     ·rename_i d hd
      refine ⟨_, _, h, fun R' k' => by simp only [evalOp, hu, hy, hx, ho, hsz, hd], AY fun w F m ρc o hop hty hi hr => ?_⟩
      simp only [decide_eq_true_eq] at hsz
      obtain ⟨i', hi0, hsz'⟩ := BQ hsz
      obtain ⟨a1, a2, a3⟩ := Ah hd
      have hrx := hr x
      rw [hx] at hrx
      unfold Rep at hrx
      rw [ho] at hrx
      obtain ⟨hpos, hob⟩ := hi.obj id _ ho
      cases hm : m id with
      | none => rw [hm] at hob; simp only at hob; subst hob; simp at a3
      | some p =>
       obtain ⟨b, cap⟩ := p
       rw [hm] at hrx
       simp only [Bb] at hrx
       refine ⟨_, Bz hop hrx (BA (hy ▸ hr y)) (Dm hu hi0 ⟨b, 0, none⟩ _ cap j a1 a2), ?_⟩
       unfold Rep
       rw [ho]
       exact ⟨by unfold AG; omega, b, cap, hm, by rw [Cq, hsz']; simp [AG]⟩
     ·cases h
    ·cases h
   ·rename_i T' tgt is ho
    split at h
    ·rename_i hsz
     split at h
     ·rename_i d hd
      refine ⟨_, _, h, fun R' k' => by simp only [evalOp, hu, hy, hx, ho, hsz, hd], AY fun w F m ρc o hop hty hi hr => ?_⟩
      simp only [decide_eq_true_eq] at hsz
      obtain ⟨i', hi0, hsz'⟩ := BQ hsz
      obtain ⟨a1, a2, a3⟩ := Ah hd
      have hrx := hr x
      rw [hx] at hrx
      unfold Rep at hrx
      rw [ho] at hrx
      have hob := hi.obj id _ ho
      cases hm : m id with
      | none => rw [hm] at hob; have hob : is = [] := hob; subst hob; simp at a3
      | some p =>
       obtain ⟨b, cap⟩ := p
       rw [hm] at hrx
       simp only [Bb] at hrx
       refine ⟨_, Bz hop hrx (BA (hy ▸ hr y)) (Dm hu hi0 ⟨b, 0, none⟩ _ cap j a1 a2), ?_⟩
       unfold Rep
       rw [ho]
       exact ⟨by unfold AG; omega, b, cap, hm, by rw [Cq, hsz']; simp [AG]⟩
     ·cases h
    ·cases h
   ·cases h
  ·rename_i id off n hx
   split at h
   ·rename_i T' t xs ho
    split at h
    ·rename_i hsz
     split at h
     ·rename_i d hd
      refine ⟨_, _, h, fun R' k' => by simp only [evalOp, hu, hy, hx, ho, hsz, hd], AY fun w F m ρc o hop hty hi hr => ?_⟩
      simp only [decide_eq_true_eq] at hsz
      obtain ⟨i', hi0, hsz'⟩ := BQ hsz
      obtain ⟨a1, a2, a3⟩ := Ah hd
      have hrx := hr x
      rw [hx] at hrx
      unfold Rep at hrx
      rw [ho] at hrx
      obtain ⟨hle, hrx⟩ := hrx
      have hcl : (DQ off n xs).length = n := by unfold DQ; rw [List.length_take, List.length_drop]; omega
      rw [hcl] at a2
      obtain ⟨hpos, hob⟩ := hi.obj id _ ho
      cases hm : m id with
      | none =>
       rw [hm] at hob; simp only at hob; subst hob
       have : n = 0 := by have := hle; simp at this; exact this.2
       omega
      | some p =>
       obtain ⟨b, cap⟩ := p
       rw [hm] at hrx hob
       obtain ⟨vs, row, e1, e2, _⟩ := hob
       obtain ⟨a, e3, e4⟩ := hrx
       have e4 := e4 (by omega)
       subst e4
       refine ⟨_, Bz hop e3 (BA (hy ▸ hr y)) (Dm hu hi0 ⟨b, off * t.size, none⟩ _ _ j a1 a2), ?_⟩
       unfold Rep
       rw [ho]
       exact ⟨by unfold AG; omega, b, cap, hm, by rw [Cq, hsz']; simp [AG, Nat.add_mul]⟩
     ·cases h
    ·cases h
   ·cases h
  ·cases h
 ·rename_i n e j i hu hy
  split at h
  ·rename_i s hs hd
   obtain ⟨i', hi0, rfl⟩ := BQ hs
   have hd' := hd
   simp only [decide_eq_true_eq] at hd'
   have hd1 : 0 ≤ i := hd'.1
   have hd2 : i < (n : Int) := hd'.2
   have hrun : ∀ (w : World) (ad : Addr), (Instr.indexAt T (.pointer (some ad)) (.int j i)).run P w = .ok (.pointer (some (ad.add (i.toNat * i'.size)))) w := by
    intro w ad
    simp [Instr.indexAt, asIntOf, run_underlying hu, Instr.sureAddr, hd1, hd2, run_sizeOf hi0]
   split at h
   ·rename_i id o' hx
    split at h
    ·rename_i hl
     obtain ⟨cs, ho⟩ := JL hl
     refine ⟨_, _, h, fun R' k' => by simp only [evalOp, hu, hy, hs, hd, hx, hl], AY fun w F m ρc o hop hty hi hr => ?_⟩
     obtain ⟨b, c, vs, T, e1, e2, _⟩ := Pf hi ho (hx ▸ hr x)
     refine ⟨_, Bz hop e2 (BA (hy ▸ hr y)) (hrun w _), ?_⟩
     unfold Rep; rw [ho]; exact ⟨b, c, e1, by rw [Cq]⟩
    ·cases h
   ·rename_i id jj s hx
    split at h
    ·rename_i hl
     obtain ⟨T', t, xs, ho⟩ := DM hl
     refine ⟨_, _, h, fun R' k' => by simp only [evalOp, hu, hy, hs, hd, hx, hl], AY fun w F m ρc o hop hty hi hr => ?_⟩
     obtain ⟨b, c, vs, row, e1, e2, e3, _⟩ := L9 hi ho (hx ▸ hr x)
     refine ⟨_, Bz hop e2 (BA (hy ▸ hr y)) (hrun w _), ?_⟩
     unfold Rep; rw [ho]; exact ⟨e3, b, c, e1, by rw [Cq, Nat.add_assoc]⟩
    ·cases h
   ·rename_i cs hx
    refine ⟨_, _, h, fun R' k' => by simp only [evalOp, hu, hy, hs, hd, hx], AY fun w F m ρc o hop hty hi hr => ?_⟩
    have hrx := hr x
    rw [hx] at hrx
    unfold Rep at hrx
    obtain ⟨ad, us, e1, e2, e3, e4, e5⟩ := hrx
    refine ⟨_, Bz hop e1 (BA (hy ▸ hr y)) (hrun w _), ?_⟩
    unfold Rep
    exact ⟨_, us.drop (i.toNat * i'.size), rfl, fun hne => by rw [MA]; exact e2 (by rintro rfl; simp at hne), EO e3 _, fun u hu => e4 u (List.mem_of_mem_drop hu), fun j u hu => by
     rw [add_add]; rw [List.getElem?_drop] at hu; exact e5 _ u hu⟩
   ·cases h
  ·cases h
 ·cases h
end
end Go.Pev
end
section
namespace Go.Pev
open Go.RowKit
section
variable {P : Program} {E : Env}
theorem AWL {α : Type} {a : Array α} {x : α} (h : a.toList = [x]) : a = #[x] := by rw [← Array.toArray_toList (xs := a), h]
theorem Abb {α : Type} {a : Array α} {x y : α} (h : a.toList = [x, y]) : a = #[x, y] := by rw [← Array.toArray_toList (xs := a), h]
theorem Z6 {w : World} {F : Nat → Prop} {a b : Ty} : ∀ {es : List (a.den × b.den)} {ms : List MapEntry}, Hc w F a b es ms → ms.length = es.length := by
 intro es
 induction es with
 | nil => rintro ms rfl; rfl
 | cons e es ih => rintro ms ⟨me, ms', rfl, _, h⟩; simp [ih h]
theorem Eg {w w' : World} {ρc : Operand → Value} {o : Oper} {T : TypeId} {x : Operand} {v u : Value} (hop : o.op = .call { callee := .builtin .len, args := #[x], argTypes := #[T] }) (e1 : ρc x = v)
  (hrun : (Builtin.len_ #[T] o.type #[v]).run P w = .ok u w') : (execOp ρc o).run P w = .ok (.value u) w' := by simp [execOp, hop, resolve, invoke, builtin, e1, hrun]
theorem Bj {w : World} {T e ty : TypeId} (hu : P.underlying T = some (.slice e)) (a : Option Addr) (n c : Nat) : (Builtin.len_ #[T] ty #[.slice a n c]).run P w = .ok (.int .i64 n) w := by
 simp [Builtin.len_, run_underlying hu, goInt]
theorem AV3 (args : Array Operand) (ts : Array TypeId) : Claim P E (.call { callee := .builtin .len, args := args, argTypes := ts }) := by
 intro R ty ρ H fz slot k r h
 simp only [evalOp] at h
 split at h
 ·rename_i x T ha hts
  obtain rfl := AWL ha
  obtain rfl := AWL hts
  split at h
  ·rename_i e hu
   split at h
   ·rename_i t xs hx
    refine ⟨_, _, h, fun R' k' => by simp only [evalOp, hu, hx], AY fun w F m ρc o hop hty hi hr => ?_⟩
    have hrx := hr x
    rw [hx] at hrx
    have hrx : Dat w F (.slice t) xs [ρc x] := hrx
    obtain ⟨a, cap, e1, _⟩ := hrx
    simp only [List.cons.injEq, and_true] at e1
    exact ⟨_, Eg hop e1 (Bj hu _ _ _), As _ _⟩
   ·rename_i hx
    refine ⟨_, _, h, fun R' k' => by simp only [evalOp, hu, hx], AY fun w F m ρc o hop hty hi hr => ?_⟩
    have hrx := hr x
    rw [hx] at hrx
    unfold Rep at hrx
    exact ⟨_, Eg hop hrx (Bj hu _ _ _), As _ _⟩
   ·rename_i id hx
    split at h
    ·rename_i T' t xs ho
     refine ⟨_, _, h, fun R' k' => by simp only [evalOp, hu, hx, ho], AY fun w F m ρc o hop hty hi hr => ?_⟩
     have hrx := hr x
     rw [hx] at hrx
     unfold Rep at hrx
     rw [ho] at hrx
     obtain ⟨_, hob⟩ := hi.obj id _ ho
     cases hm : m id with
     | none =>
      rw [hm] at hrx hob
      obtain ⟨a, e1⟩ := hrx
      simp only at hob; subst hob
      exact ⟨_, Eg hop e1 (Bj hu _ _ _), As _ _⟩
     | some p =>
      rw [hm] at hrx
      exact ⟨_, Eg hop hrx (Bj hu _ _ _), As _ _⟩
    ·rename_i T' tgt is ho
     refine ⟨_, _, h, fun R' k' => by simp only [evalOp, hu, hx, ho], AY fun w F m ρc o hop hty hi hr => ?_⟩
     have hrx := hr x
     rw [hx] at hrx
     unfold Rep at hrx
     rw [ho] at hrx
     have hob := hi.obj id _ ho
     cases hm : m id with
     | none =>
      rw [hm] at hrx hob
      obtain ⟨a, e1⟩ := hrx
      have hob : is = [] := hob
      subst hob
      exact ⟨_, Eg hop e1 (Bj hu _ _ _), As _ _⟩
     | some p =>
      rw [hm] at hrx
      exact ⟨_, Eg hop hrx (Bj hu _ _ _), As _ _⟩
    ·cases h
   ·rename_i id off n hx
    split at h
    ·rename_i hl
     obtain ⟨T', t, xs, ho⟩ := DM hl
     refine ⟨_, _, h, fun R' k' => by simp only [evalOp, hu, hx, hl], AY fun w F m ρc o hop hty hi hr => ?_⟩
     have hrx := hr x
     rw [hx] at hrx
     unfold Rep at hrx
     rw [ho] at hrx
     obtain ⟨_, hrx⟩ := hrx
     cases hm : m id with
     | none =>
      rw [hm] at hrx
      obtain ⟨a, e1⟩ := hrx
      exact ⟨_, Eg hop e1 (Bj hu _ _ _), As _ _⟩
     | some p =>
      rw [hm] at hrx
      obtain ⟨a, e1, _⟩ := hrx
      exact ⟨_, Eg hop e1 (Bj hu _ _ _), As _ _⟩
    ·cases h
   ·cases h
  ·rename_i kt vt hu
   split at h
   ·rename_i id hx
    split at h
    ·rename_i a b es ho
     refine ⟨_, _, h, fun R' k' => by simp only [evalOp, hu, hx, ho], AY fun w F m ρc o hop hty hi hr => ?_⟩
     have hrx := hr x
     rw [hx] at hrx
     unfold Rep at hrx
     rw [ho] at hrx
     obtain ⟨bb, c, e1, e2⟩ := hrx
     obtain ⟨b', c', ms, clock, e3, e4, e5, _⟩ := hi.obj id _ ho
     rw [e1] at e3; cases e3
     refine ⟨_, Eg hop e2 (u := .int .i64 (ms.size : Int)) ?_, ?_⟩
     ·simp [Builtin.len_, run_underlying hu, goInt, getObj, Sem.run, e4]
     ·have := Z6 e5
      rw [Array.length_toList] at this
      rw [this]
      exact As _ _
    ·cases h
   ·cases h
  ·cases h
 ·cases h
theorem HV {w : World} {F : Nat → Prop} {m : Mp} {H : List Ob} {fz : List Bool} (hi : HI w F m H fz) {t : Ty} {v : AV} {ys : List t.den} {fr : List Nat} (h : FP H (.slice t) v = some (ys, fr)) {u : Value} (hr : Rep w F m H v u) :
  ∃ a cap, u = .slice a ys.length cap ∧ ys.length ≤ cap ∧ (ys ≠ [] → a.isSome = true) ∧ ∃ news, rows (Dat w F t) ys news ∧ ∀ ad, a = some ad → ∀ j u, news[j]? = some u → w.cell? (ad.add j) = some u := by
 change D6 H (.slice t) v = some (ys, fr) at h
 unfold D6 at h
 split at h
 ·rename_i t' d
  simp only [Option.map_eq_some_iff, Prod.mk.injEq] at h
  obtain ⟨y, h1, rfl, rfl⟩ := h
  obtain ⟨e, h2⟩ := FM h1
  subst e; simp only at h2; subst h2
  have hrx : Dat w F (.slice t) d [u] := hr
  obtain ⟨a, cap, e1, e2, e3⟩ := hrx
  simp only [List.cons.injEq, and_true] at e1
  refine ⟨a, cap, e1, e2, fun hne => ?_, ?_⟩
  ·obtain ⟨ad, row, rfl, _⟩ := e3 hne; rfl
  ·by_cases hne : d = []
   ·subst hne
    exact ⟨[], rfl, fun ad _ j u hu => by simp at hu⟩
   ·obtain ⟨ad, row, rfl, q1, q2, q3⟩ := e3 hne
    exact ⟨row, q2, fun ad' h => by cases h; exact q3⟩
 ·simp only [Option.some.injEq, Prod.mk.injEq] at h
  obtain ⟨rfl, rfl⟩ := h
  unfold Rep at hr
  exact ⟨none, 0, hr, Nat.le_refl _, fun h => absurd rfl h, [], rfl, fun ad _ j u hu => by simp at hu⟩
 ·rename_i id
  split at h
  ·rename_i T e xs ho
   simp only [Option.map_eq_some_iff, Prod.mk.injEq] at h
   obtain ⟨y, h1, rfl, rfl⟩ := h
   obtain ⟨e', h2⟩ := FM h1
   injection e' with e'
   subst e'; simp only at h2; subst h2
   unfold Rep at hr
   rw [ho] at hr
   obtain ⟨_, hob⟩ := hi.obj id _ ho
   cases hm : m id with
   | none =>
    rw [hm] at hr hob
    obtain ⟨a, rfl⟩ := hr
    simp only at hob; subst hob
    exact ⟨a, 0, rfl, Nat.le_refl _, fun h => absurd rfl h, [], rfl, fun ad _ j u hu => by simp at hu⟩
   | some p =>
    obtain ⟨b, cap⟩ := p
    rw [hm] at hr hob
    obtain ⟨vs, row, e1, e2, e3, e4, e5, e6⟩ := hob
    refine ⟨_, cap, hr, e2, fun _ => rfl, row, e5, fun ad h j u hu => ?_⟩
    cases h
    rw [Cq, Nat.zero_add, DT e1]
    exact CG e6 hu
  ·cases h
 ·rename_i id off n
  split at h
  ·rename_i T e xs ho
   simp only [Option.map_eq_some_iff, Prod.mk.injEq] at h
   obtain ⟨y, h1, rfl, rfl⟩ := h
   obtain ⟨e', h2⟩ := FM h1
   injection e' with e'
   subst e'; simp only at h2; subst h2
   unfold Rep at hr
   rw [ho] at hr
   obtain ⟨hle, hr⟩ := hr
   have hcl : (DQ off n xs).length = n := by unfold DQ; rw [List.length_take, List.length_drop]; omega
   obtain ⟨_, hob⟩ := hi.obj id _ ho
   cases hm : m id with
   | none =>
    rw [hm] at hr hob
    obtain ⟨a, rfl⟩ := hr
    simp only at hob; subst hob
    have hn : n = 0 := by have := hle; simp at this; exact this.2
    subst hn
    have hd : DQ off 0 ([] : List e.den) = [] := by simp [DQ]
    exact ⟨a, 0, by rw [hcl], by rw [hcl]; omega, fun h => absurd hd h, [], by rw [hd]; rfl, fun ad _ j u hu => by simp at hu⟩
   | some p =>
    obtain ⟨b, cap⟩ := p
    rw [hm] at hr hob
    obtain ⟨vs, row, e1, e2, e3, e4, e5, e6⟩ := hob
    obtain ⟨a, rfl, ha⟩ := hr
    have hk := fun (x : e.den) cs (h : Dat w F e x cs) => Dat.length e h
    have hrw := Eu hk n (IN hk off e5)
    refine ⟨a, cap - off, by rw [hcl], by rw [hcl]; omega, fun hne => ?_, _, hrw, fun ad h j u hu => ?_⟩
    ·have hn : 0 < n := by
      rcases Nat.eq_zero_or_pos n with h0 | h0
      ·exact absurd (List.eq_nil_of_length_eq_zero (hcl.trans h0)) hne
      ·exact h0
     rw [ha (by omega)]; rfl
    ·have hn : 0 < n := by
      rcases Nat.eq_zero_or_pos n with h0 | h0
      ·subst h0; simp at hu
      ·exact h0
     rw [ha (by omega)] at h; cases h
     rw [Cq, DT e1]
     rw [List.getElem?_take] at hu
     split at hu
     ·rw [List.getElem?_drop] at hu
      exact CG e6 hu
     ·cases hu
  ·cases h
 ·cases h
end
end Go.Pev
end
section
namespace Go.Pev
open Go.RowKit
section
variable {P : Program} {E : Env}
theorem Ax.kill {w : World} {F : Nat → Prop} {m : Mp} {H : List Ob} {fz : List Bool} (hi : HI w F m H fz) {j : Nat} (hoj : owned H fz j) : Ax w F m H fz w F m (H.set j .dead) fz := by
 obtain ⟨oj, hj, hjf, hjd⟩ := C5 hoj
 have hlt := Av hj
 have hgj : (H.set j .dead)[j]? = some .dead := BT hlt
 have hcomp : Ck H (H.set j .dead) m m := by
  intro i x hix hf
  by_cases hij : i = j
  ·subst hij; exact .inl hgj
  ·rcases Ck.refl H m i x hix hf with h | ⟨hd, x', h4, h5, _⟩
   ·exact .inl (by rw [A0 hij]; exact h)
   ·exact .inr ⟨hd, x', by rw [A0 hij]; exact h4, h5, rfl⟩
 have hown : ∀ i, owned (H.set j .dead) fz i → owned H fz i := fun i hoi => by
  by_cases hij : i = j
  ·subst hij; unfold owned at hoi; rw [hgj] at hoi; exact hoi.elim
  ·unfold owned at *; rw [A0 hij] at hoi; exact hoi
 refine ⟨⟨rfl, rfl, rfl, Nat.le_refl _, fun _ _ _ => rfl, fun _ h => h, fun _ h => .inl h, fun i b c h1 h2 => .inl ⟨i, c, hown i h1, h2⟩, hcomp⟩, ⟨?_, ?_, ?_, ?_, hi.lt, by simpa using hi.len⟩⟩
 ·intro id x hix
  by_cases hij : id = j
  ·subst hij; rw [hgj] at hix; cases hix; trivial
  ·rw [A0 hij] at hix
   exact ObI.mono (fun _ _ => rfl) (fun _ h => h) hcomp (fun _ _ _ _ _ _ => rfl) (hi.obj id x hix)
 ·exact fun i k b c b' c' h1 h2 => hi.sep i k b c b' c' (hown i h1) (hown k h2)
 ·exact fun i b c h1 => hi.off i b c (hown i h1)
 ·intro i T t xs b c hio hf hmi
  by_cases hij : i = j
  ·subst hij; rw [hgj] at hio; cases hio
  ·rw [A0 hij] at hio
   exact hi.froz i T t xs b c hio hf hmi
theorem NM {H : List Ob} {fz : List Bool} {slot j : Nat} {o : Ob} (h : A3 H fz slot = true) (hne : slot ≠ j) : A3 (H.set j o) fz slot = true := by
 unfold A3 at *
 rw [A0 hne]; exact h
theorem B8 {w w' : World} {ρc : Operand → Value} {o : Oper} {T : TypeId} {s x : Operand} {v n u : Value} (hop : o.op = .call { callee := .builtin .append, args := #[s, x], argTypes := #[T, T] }) (e1 : ρc s = v) (e2 : ρc x = n)
  (hrun : (Builtin.append_ #[T, T] o.type #[v, n]).run P w = .ok u w') : (execOp ρc o).run P w = .ok (.value u) w' := by simp [execOp, hop, resolve, invoke, builtin, e1, e2, hrun]
theorem GB {w : World} {T e ty : TypeId} {i : TypeInfo} (hu : P.underlying T = some (.slice e)) (hi : P.info? e = some i) (a : Option Addr) {n cap : Nat} (hn : n ≤ cap) (A : Option Addr) (c : Nat) :
  (Builtin.append_ #[T, T] ty #[.slice a n cap, .slice A 0 c]).run P w = .ok (.slice a n cap) w := by
 have hf : (Builtin.firstCells i.size 0 (.slice A 0 c)).run P w = .ok #[] w := by
  cases A with
  | none => simp [Builtin.firstCells]
  | some ad => simp [Builtin.firstCells, Go.loadCells, loadCellsFrom]
 cases a with
 | none => simp [Builtin.append_, run_underlying hu, run_sizeOf hi, Builtin.lenOf, hn, hf]
 | some ad => simp [Builtin.append_, run_underlying hu, run_sizeOf hi, Builtin.lenOf, hn, hf, storeCells]
structure Acy (w : World) (a : Option Addr) (n cap : Nat) (e : TypeId) (sz : Nat) (m : Nat) (old news : List Value) (v : Value) (w' : World) : Prop where
 os : w'.os = w.os
 tape : w'.tape = w.tape
 output : w'.output = w.output
 size : w.heap.size ≤ w'.heap.size
 keep : ∀ k, k < w.heap.size → (∀ b, a = some ⟨b, 0, none⟩ → k ≠ b) → w'.heap[k]? = w.heap[k]?
 res : (m = 0 ∧ v = .slice a n cap ∧ w' = w) ∨ (∃ g cap' vs, v = .slice (some ⟨g, 0, none⟩) (n + m) cap' ∧ w'.heap[g]? = some (.cells vs e (0, 0)) ∧ n + m ≤ cap' ∧ cap' ≤ maxLen ∧ vs.size = cap' * sz ∧
   vs.toList.take ((n + m) * sz) = old ++ news ∧ (w.heap.size ≤ g ∨ a = some ⟨g, 0, none⟩))
theorem AAh {w : World} {T e ty : TypeId} {i : TypeInfo} {z : Value} (hu : P.underlying T = some (.slice e)) (hi : P.info? e = some i) (hz : i.zero = some z) (hzs : z.cells.size = i.size) (hsz : 0 < i.size)
  {b n cap : Nat} {vs : Array Value} (hb : w.heap[b]? = some (.cells vs e (0, 0))) (hn : n ≤ cap) (hmax : cap ≤ maxLen) (hvs : vs.size = cap * i.size) {A : Option Addr} {m c : Nat} {news : List Value} (hl : news.length = m * i.size)
  (hA : 0 < m → A.isSome = true) (hnews : ∀ ad, A = some ad → ∀ j u, news[j]? = some u → w.cell? (ad.add j) = some u) (h1 : ∀ u ∈ news, u.oneCell' = true) (hfit : n + m ≤ 4294967296) (hby : i.bytes ≤ 1024) :
  ∃ v w', (Builtin.append_ #[T, T] ty #[.slice (some ⟨b, 0, none⟩) n cap, .slice A m c]).run P w = .ok v w' ∧ Acy w (some ⟨b, 0, none⟩) n cap e i.size m (vs.toList.take (n * i.size)) news v w' := by
 have hbytes : (n + m) * i.bytes ≤ 140737488355328 := Nat.le_trans (Nat.mul_le_mul hfit hby) (by omega)
 have hown : w.ownsRow 0 e i.size (.slice (some ⟨b, 0, none⟩) n cap) n (vs.toList.take (n * i.size)) := by
  refine ⟨?_, .inr ⟨b, cap, vs, rfl, Nat.zero_le _, hb, hn, hmax, hvs, rfl⟩⟩
  rw [List.length_take, Array.length_toList, hvs]
  exact Nat.min_eq_left (Nat.mul_le_mul_right _ hn)
 cases A with
 | none =>
  have hm : m = 0 := by
   rcases Nat.eq_zero_or_pos m with h0 | h0
   ·exact h0
   ·exact absurd (hA h0) (by simp)
  subst hm
  exact ⟨_, w, GB hu hi _ hn none c, rfl, rfl, rfl, Nat.le_refl _, fun _ _ _ => rfl, .inl ⟨rfl, rfl, rfl⟩⟩
 | some ad =>
  obtain ⟨v', w', hrun, ⟨hl', hres⟩, hg, _, hat⟩ := run_append_own_at (P := P) w 0 T ty e i z i.size i.bytes hu hi hz rfl rfl hzs hsz _ n _ hown ad m c news hl (hnews ad rfl) h1 (by simp only [maxLen]; omega) hbytes (Nat.zero_le _)
  refine ⟨v', w', hrun, hg.os, hg.tape, hg.output, hg.size, fun k hk hne => hg.block k hk (by simp [Value.ownBlock]; exact hne b rfl), .inr ?_⟩
  rcases hres with ⟨rfl, h0⟩ | ⟨g, cap', cur, rfl, _, h2, h3, h4, h5, h6⟩
  ·rcases hat with h | h <;> simp [Value.ownBlock] at h
  ·refine ⟨g, cap', cur, rfl, h2, h3, h4, h5, h6, ?_⟩
   rcases hat with h | h
   ·simp only [Value.ownBlock, Option.some.injEq] at h; subst h; exact .inr rfl
   ·simp only [Value.ownBlock, Option.some.injEq] at h; subst h; exact .inl (Nat.le_refl _)
theorem Kz {w : World} {T e ty : TypeId} {i : TypeInfo} {z : Value} (hu : P.underlying T = some (.slice e)) (hi : P.info? e = some i) (hz : i.zero = some z) (hzs : z.cells.size = i.size)
  (a : Option Addr) {A : Option Addr} {m c : Nat} {news : List Value} (hl : news.length = m * i.size)
  (hA : 0 < m → A.isSome = true) (hnews : ∀ ad, A = some ad → ∀ j u, news[j]? = some u → w.cell? (ad.add j) = some u) (hfit : m ≤ 4294967296) (hby : i.bytes ≤ 1024) :
  ∃ v w', (Builtin.append_ #[T, T] ty #[.slice a 0 0, .slice A m c]).run P w = .ok v w' ∧ w'.os = w.os ∧ w'.tape = w.tape ∧ w'.output = w.output ∧ w.heap.size ≤ w'.heap.size ∧ (∀ k, k < w.heap.size → w'.heap[k]? = w.heap[k]?) ∧
   ((m = 0 ∧ v = .slice a 0 0) ∨ (∃ cap' vs, v = .slice (some ⟨w.heap.size, 0, none⟩) m cap' ∧ w'.heap[w.heap.size]? = some (.cells vs e (0, 0)) ∧ m ≤ cap' ∧ cap' ≤ maxLen ∧ vs.size = cap' * i.size ∧ vs.toList.take (m * i.size) = news)) := by
 rcases Nat.eq_zero_or_pos m with h0 | h0
 ·subst h0
  exact ⟨_, w, GB hu hi a (Nat.le_refl _) A c, rfl, rfl, rfl, Nat.le_refl _, fun _ _ => rfl, .inl ⟨rfl, rfl⟩⟩
 ·obtain ⟨ad, rfl⟩ := Option.isSome_iff_exists.1 (hA h0)
  have hmb : m * i.bytes ≤ 281474976710656 := Nat.le_trans (Nat.mul_le_mul hfit hby) (by omega)
  have hge := grownCap_ge w m 0 e
  have hle := grownCap_le_maxLen w m 0 e (by simp only [maxLen]; omega)
  have fin : ∀ vs : Array Value, vs.toList = news ++ (Builtin.zeroCells z.cells (grownCap w m 0 e - m)).toList → vs.size = grownCap w m 0 e * i.size ∧ vs.toList.take (m * i.size) = news := by
   intro vs hvs
   refine ⟨?_, ?_⟩
   ·rw [← Array.length_toList, hvs, List.length_append, hl, Array.length_toList, size_zeroCells, hzs, ← Nat.add_mul]
    congr 1; omega
   ·rw [hvs, ← hl]; exact List.take_left
  cases a with
  | none =>
   have hr := run_append_nil (P := P) w T ty e i z hu hi hz ad m c news hl (hnews ad rfl) h0 (by omega) hmb
   obtain ⟨f1, f2⟩ := fin (news.toArray ++ Builtin.zeroCells z.cells (grownCap w m 0 e - m)) (by simp)
   exact ⟨_, _, hr, rfl, rfl, rfl, by simp, fun k hk => heap_alloc_old w.drew _ k hk, .inr ⟨_, _, rfl, heap_alloc_new w.drew _, hge, hle, f1, f2⟩⟩
  | some b =>
   have hr := run_append_grow (P := P) w T ty e i z hu hi hz b 0 0 [] (by simp) (fun j v h => by simp at h) ad m c news hl (hnews ad rfl) (by omega) (by omega) (by
    rw [Nat.zero_add]
    have : Builtin.nextslicecap m 0 = m := nextslicecap_zero h0
    rw [this]; exact hmb)
   simp only [Nat.zero_add] at hr
   obtain ⟨f1, f2⟩ := fin (([] : List Value).toArray ++ news.toArray ++ Builtin.zeroCells z.cells (grownCap w m 0 e - m)) (by simp)
   exact ⟨_, _, hr, rfl, rfl, rfl, by simp, fun k hk => heap_alloc_old w.drew _ k hk, .inr ⟨_, _, rfl, heap_alloc_new w.drew _, hge, hle, f1, f2⟩⟩
end
end Go.Pev
end
section
namespace Go.Pev
open Go.RowKit
section
variable {P : Program} {E : Env}
theorem ASb {H : List Ob} {fz : List Bool} {slot id : Nat} {T : TypeId} {t : Ty} {xs : List t.den} (hf : A3 H fz slot = true) (ho : H[id]? = some (.arr T t xs)) : slot ≠ id := by
 rintro rfl
 rw [(BW hf).1] at ho; cases ho
theorem JY {w : World} {F : Nat → Prop} {m : Mp} {H : List Ob} {fz : List Bool} (hi : HI w F m H fz) {slot : Nat} (hf : A3 H fz slot = true) {T e ty : TypeId} {t : Ty} {i : TypeInfo} {z : Value} (hu : P.underlying T = some (.slice e))
  (hi0 : P.info? e = some i) (hz : i.zero = some z) (hzs : z.cells.size = i.size) (hsz : i.size = t.size) (hpos : 0 < t.size) (hby : i.bytes ≤ 1024) {ys : List t.den} (hfit : ys.length ≤ 4294967296) (a : Option Addr)
  {A : Option Addr} {c : Nat} {news : List Value} (hA : ys ≠ [] → A.isSome = true) (hrows : rows (Dat w F t) ys news) (hnews : ∀ ad, A = some ad → ∀ j u, news[j]? = some u → w.cell? (ad.add j) = some u) :
  ∃ v w' m', (Builtin.append_ #[T, T] ty #[.slice a 0 0, .slice A ys.length c]).run P w = .ok v w' ∧ Ax w F m H fz w' F m' (H.set slot (.arr e t ys)) fz ∧ Rep w' F m' (H.set slot (.arr e t ys)) (.own slot) v := by
 have hk := fun (x : t.den) cs (h : Dat w F t x cs) => Dat.length t h
 have hl := BK hk hrows
 obtain ⟨v, w', hrun, h1, h2, h3, h4, h5, h6⟩ := Kz (P := P) (w := w) (ty := ty) hu hi0 hz hzs a (A := A) (m := ys.length) (c := c) (news := news) (by rw [hl, hsz]) (fun h => hA (by rintro rfl; simp at h)) hnews hfit hby
 rcases h6 with ⟨h0, rfl⟩ | ⟨cap', vs, rfl, q1, q2, q3, q4, q5⟩
 ·have hy : ys = [] := List.eq_nil_of_length_eq_zero h0
  subst hy
  have hgw := Ax.grow hi h1 h2 h3 h4 h5
  obtain ⟨m', hg, hrep⟩ := HH hgw.2 hf e hpos a
  exact ⟨_, w', m', hrun, hgw.trans hg, hrep⟩
 ·obtain ⟨m', hg, hrep⟩ := GW hi hf hpos q1 h1 h2 h3 h4 h5 q2 q3 (by rw [q4, hsz]) hrows (by rw [hl, ← hsz]; exact q5)
  exact ⟨_, w', m', hrun, hg, hrep⟩
theorem UJ {w : World} {F : Nat → Prop} {m : Mp} {H : List Ob} {fz : List Bool} (hi : HI w F m H fz) {slot : Nat} (hf : A3 H fz slot = true) {T e ty : TypeId} {t : Ty} {i : TypeInfo} {z : Value} (hu : P.underlying T = some (.slice e))
  (hi0 : P.info? e = some i) (hz : i.zero = some z) (hzs : z.cells.size = i.size) (hsz : i.size = t.size) (hpos : 0 < t.size) (hby : i.bytes ≤ 1024) {id : Nat} {xs : List t.den} (ho : H[id]? = some (.arr e t xs)) (hun : Ay fz id = true)
  {b cap : Nat} (hm : m id = some (b, cap)) {n : Nat} (hn : n ≤ xs.length) {ys : List t.den} (hfit : n + ys.length ≤ 4294967296)
  {A : Option Addr} {c : Nat} {news : List Value} (hA : ys ≠ [] → A.isSome = true) (hrows : rows (Dat w F t) ys news) (hnews : ∀ ad, A = some ad → ∀ j u, news[j]? = some u → w.cell? (ad.add j) = some u) :
  ∃ v w' m', (Builtin.append_ #[T, T] ty #[.slice (some ⟨b, 0, none⟩) n cap, .slice A ys.length c]).run P w = .ok v w' ∧
   Ax w F m H fz w' F m' ((H.set id .dead).set slot (.arr e t (xs.take n ++ ys))) fz ∧ Rep w' F m' ((H.set id .dead).set slot (.arr e t (xs.take n ++ ys))) (.own slot) v := by
 have hk := fun (x : t.den) cs (h : Dat w F t x cs) => Dat.length t h
 have hl := BK hk hrows
 obtain ⟨_, hob⟩ := hi.obj id _ ho
 rw [hm] at hob
 obtain ⟨vs, row, e1, e2, e3, e4, e5, e6⟩ := hob
 have hrl := BK hk e5
 have hold : vs.toList.take (n * i.size) = row.take (n * t.size) := by
  rw [← e6, List.take_take, hsz, Nat.min_eq_left (by rw [hrl]; exact Nat.mul_le_mul_right _ hn)]
 obtain ⟨v, w', hrun, hgr⟩ := AAh (P := P) (w := w) (ty := ty) hu hi0 hz hzs (by omega) e1 (n := n) (by omega) e3 (by rw [e4, hsz]) (A := A) (m := ys.length) (c := c) (news := news) (by rw [hl, hsz]) (fun h => hA (by rintro rfl; simp at h)) hnews
  (fun u hu => XO (fun x cs (h : Dat w F t x cs) => Dat.Hk t h) hrows u hu) hfit hby
 rw [hold] at hgr
 have hlen : (xs.take n ++ ys).length = n + ys.length := by rw [List.length_append, List.length_take]; omega
 have hr0 := KE (Eu hk n e5) hrows
 have hcell : ∀ a : Addr, F a.block → w'.cell? a = w.cell? a := fun a ha => by
  have h1 : a.block ≠ b := by rintro h; exact hi.off id b cap (Cn ho hun) hm (h ▸ ha)
  simp [World.cell?, hgr.keep _ (hi.lt _ ha) (fun b' h => by cases h; exact h1)]
 have hlts := Av (BW hf).1
 have hgs : ((H.set id .dead).set slot (.arr e t (xs.take n ++ ys)))[slot]? = some (.arr e t (xs.take n ++ ys)) := BT (by simpa using hlts)
 have main : ∀ (g cap' : Nat) (vs' : Array Value), (w.heap.size ≤ g ∨ g = b) → w'.heap[g]? = some (.cells vs' e (0, 0)) → n + ys.length ≤ cap' → cap' ≤ maxLen → vs'.size = cap' * t.size → vs'.toList.take ((n + ys.length) * t.size) = row.take (n * t.size) ++ news →
   ∃ m', Ax w F m H fz w' F m' ((H.set id .dead).set slot (.arr e t (xs.take n ++ ys))) fz ∧ Rep w' F m' ((H.set id .dead).set slot (.arr e t (xs.take n ++ ys))) (.own slot) (.slice (some ⟨g, 0, none⟩) (n + ys.length) cap') := by
  intro g cap' vs' hg q1 q2 q3 q4 q5
  have := Ax.move (w' := w') hi (Cn ho hun) hm hf (ob := .arr e t (xs.take n ++ ys)) trivial (b' := g) (c' := cap') hg.symm hgr.os hgr.tape hgr.output hgr.size (fun k hk hne => hgr.keep k hk (fun b' h => by cases h; exact hne))
   (fun _ => ⟨hpos, vs', row.take (n * t.size) ++ news, q1, by rw [hlen]; exact q2, q3, q4, BP (fun x _ cs hx => hx.mono hcell (fun _ h => h) t) hr0, by
    have : (row.take (n * t.size) ++ news).length = (n + ys.length) * t.size := by rw [BK hk hr0, hlen]
    rw [this]; exact q5⟩)
  refine ⟨_, this, ?_⟩
  unfold Rep
  rw [hgs, Aq, ← hlen]
  rfl
 rcases hgr.res with ⟨h0, rfl, rfl⟩ | ⟨g, cap', vs', rfl, q1, q2, q3, q4, q5, q6⟩
 ·have hy : ys = [] := List.eq_nil_of_length_eq_zero h0
  subst hy
  obtain ⟨m', hg, hrep⟩ := main b cap vs (.inr rfl) e1 (by simp; omega) e3 e4 (by
   cases hrows
   rw [List.append_nil, List.length_nil, Nat.add_zero]
   rw [hsz] at hold
   exact hold)
  exact ⟨_, _, m', hrun, hg, by simpa using hrep⟩
 ·obtain ⟨m', hg, hrep⟩ := main g cap' vs' (by rcases q6 with h | h; exact .inl h; cases h; exact .inr rfl) q1 q2 q3 (by rw [q4, hsz]) (by rw [← hsz] at *; exact q5)
  exact ⟨_, _, m', hrun, hg, hrep⟩
theorem AHL {w w' : World} {ρc : Operand → Value} {o : Oper} {T T' : TypeId} {s x : Operand} {v n u : Value} (hop : o.op = .call { callee := .builtin .append, args := #[s, x], argTypes := #[T, T'] }) (e1 : ρc s = v) (e2 : ρc x = n)
  (hrun : (Builtin.append_ #[T, T'] o.type #[v, n]).run P w = .ok u w') : (execOp ρc o).run P w = .ok (.value u) w' := by simp [execOp, hop, resolve, invoke, builtin, e1, e2, hrun]
theorem AMj {w : World} {F : Nat → Prop} {m : Mp} {H : List Ob} {fz : List Bool} (hi : HI w F m H fz) {slot : Nat} (hf : A3 H fz slot = true) {T T' e ty : TypeId} {t : Ty} {i : TypeInfo} {z : Value} (hu : P.underlying T = some (.slice e))
  (hi0 : P.info? e = some i) (hz : i.zero = some z) (hok : Bi (zeroCells t) z.cells.toList = true) (hsz : i.size = t.size) (hpos : 0 < t.size) (hby : i.bytes ≤ 1024) {kt kx : IntKind} (hk : P.underlying T' = some (.int kt)) {n : Nat} (hfit : n ≤ 4294967296) :
  ∃ v w' m', (Builtin.append_ #[T, T'] ty #[.slice none 0 0, .int kx n]).run P w = .ok v w' ∧ Ax w F m H fz w' F m' (H.set slot (.arr e t (List.replicate n t.zero))) fz ∧ Rep w' F m' (H.set slot (.arr e t (List.replicate n t.zero))) (.own slot) v := by
 have hzd := CB (w := w) (F := F) t _ hok
 have hzl : z.cells.size = t.size := by rw [← Array.length_toList]; exact Dat.length t hzd
 have hw : IntKind.i64.wrap (n : Int) = n := IntWalk.i64_in _ (by omega)
 have hbb : (n : Int) * (i.bytes : Int) ≤ 281474976710656 := by
  have : n * i.bytes ≤ 4294967296 * 1024 := Nat.mul_le_mul hfit hby
  have h2 : ((n * i.bytes : Nat) : Int) ≤ 281474976710656 := by omega
  rwa [Int.natCast_mul] at h2
 rcases Nat.eq_zero_or_pos n with h0 | h0
 ·subst h0
  obtain ⟨m', hg, hrep⟩ := HH (w := w) hi hf e hpos none
  refine ⟨.slice none 0 0, w, m', ?_, by simpa using hg, by simpa using hrep⟩
  have hw0 : IntKind.i64.wrap 0 = 0 := hw
  simp [Builtin.append_, run_underlying hu, run_underlying hk, sizeOf, typeInfo, hi0, asInt, asIntOf, hw0]
 ·have hge := grownCap_ge w n 0 e
  have hle := grownCap_le_maxLen w n 0 e (by simp only [maxLen]; omega)
  have hrows := EV (w := w) (F := F) hzd n
  have hrl := BK (fun x cs (h : Dat w F t x cs) => Dat.length t h) hrows
  rw [List.length_replicate] at hrl
  have hcells : ∀ k, (Builtin.zeroCells z.cells k).toList = (List.replicate k z.cells.toList).flatten := DJ z.cells
  have hrun : (Builtin.append_ #[T, T'] ty #[.slice none 0 0, .int kx n]).run P w = .ok (.slice (some ⟨w.heap.size, 0, none⟩) n (grownCap w n 0 e)) (w.drew.alloc (.cells (Builtin.zeroCells z.cells n ++ Builtin.zeroCells z.cells (grownCap w n 0 e - n)) e)) := by
   have hn : n ≠ 0 := by omega
   have hn2 : ¬ ((n : Int) < 0) := by omega
   have hn3 : ¬ (281474976710656 < (n : Int) * (i.bytes : Int)) := by omega
   have h63' : ¬ (9223372036854775807 < (n : Int)) := by omega
   have h48' : ¬ (281474976710656 < Builtin.nextslicecap n 0 * i.bytes) := by
    rw [nextslicecap_zero h0]
    have : n * i.bytes ≤ 4294967296 * 1024 := Nat.mul_le_mul hfit hby
    omega
   have hsz0 : ¬ (i.size = 0) := by omega
   simp [Builtin.append_, run_underlying hu, run_underlying hk, sizeOf, typeInfo, zeroValue, hi0, hz, asInt, asIntOf, hw, hn, hn2, hn3, h63', h48', Question.forced, run_firstCells_none, newRow, grownCap]
   intro h
   have : n * i.size ≠ 0 := Nat.mul_ne_zero hn hsz0
   omega
  obtain ⟨m', hg, hrep⟩ := GW hi hf (w' := w.drew.alloc (.cells (Builtin.zeroCells z.cells n ++ Builtin.zeroCells z.cells (grownCap w n 0 e - n)) e)) hpos (xs := List.replicate n t.zero) (heap_alloc_new w.drew _) rfl rfl rfl (by simp) (fun b hb => heap_alloc_old w.drew _ b hb)
   (cap := grownCap w n 0 e) (by simpa using hge) hle (by
    rw [Array.size_append, size_zeroCells, size_zeroCells, hzl, ← Nat.add_mul]; congr 1; omega) hrows (by
    rw [hrl, Array.toList_append, hcells, ← hrl, List.take_left])
  rw [List.length_replicate] at hrep
  exact ⟨_, _, m', hrun, hg, hrep⟩
end
end Go.Pev
end
section
namespace Go.Pev
open Go.RowKit
section
variable {P : Program}
theorem ABr {H : List Ob} {fz : List Bool} {ids : List Nat} {i : Nat} (h : owned H (Ak ids fz) i) : owned H fz i := by
 unfold owned at *
 cases ho : H[i]? with
 | none => rw [ho] at h; exact h.elim
 | some o =>
  rw [ho] at h
  cases o with
  | free => exact h.elim
  | dead => exact h.elim
  | box cs => trivial
  | map k v es => trivial
  | prs T t is => trivial
  | arr T t xs =>
   simp only at h ⊢
   rw [A1] at h
   simp only [Bool.or_eq_false_iff] at h
   exact h.1
theorem ADX {w w' : World} {F : Nat → Prop} {m : Mp} {H : List Ob} {fz : List Bool} (hi : HI w F m H fz) {id : Nat} {e : TypeId} {t : Ty} {xs : List t.den} (ho : H[id]? = some (.arr e t xs)) (hun : Ay fz id = true)
  (os : w'.os = w.os) (tape : w'.tape = w.tape) (output : w'.output = w.output) (size : w.heap.size ≤ w'.heap.size) (G : Nat → Prop)
  (hG : ∀ k, G k → k < w'.heap.size ∧ ((∃ c, m id = some (k, c)) ∨ w.heap.size ≤ k)) (hb : ∀ b c, m id = some (b, c) → G b)
  (hkeep : ∀ k, k < w.heap.size → (∀ c, m id ≠ some (k, c)) → w'.heap[k]? = w.heap[k]?)
  (hob : ObI w' (fun k => F k ∨ G k) m H (.arr e t xs) (m id)) : Ax w F m H fz w' (fun k => F k ∨ G k) m H (Ak [id] fz) := by
 have hid := Cn ho hun
 have hown : ∀ i, owned H (Ak [id] fz) i → owned H fz i ∧ i ≠ id := by
  intro i h
  refine ⟨ABr h, ?_⟩
  rintro rfl
  unfold owned at h
  rw [ho] at h
  simp only at h
  rw [A1] at h
  have hl : i < fz.length := by rw [← hi.len]; exact Av ho
  simp [hl] at h
 have hcell : ∀ a : Addr, F a.block → w'.cell? a = w.cell? a := fun a ha => by
  simp [World.cell?, hkeep _ (hi.lt _ ha) (fun c hc => hi.off id _ c hid hc ha)]
 refine ⟨⟨os, tape, output, size, fun b hb' hne => hkeep b hb' (fun c hc => hne id c hid hc), fun _ h => .inl h, ?_, fun i b c h1 h2 => .inl ⟨i, c, (hown i h1).1, h2⟩, Ck.refl H m⟩, ⟨?_, ?_, ?_, ?_, ?_, by rw [CQ]; exact hi.len⟩⟩
 ·rintro b (h | h)
  ·exact .inl h
  ·rcases (hG b h).2 with ⟨c, hc⟩ | h
   ·exact .inr (.inl ⟨id, c, hid, hc⟩)
   ·exact .inr (.inr h)
 ·intro j o hj
  by_cases hji : j = id
  ·subst hji; rw [ho] at hj; cases hj; exact hob
  ·exact ObI.mono hcell (fun _ h => .inl h) (Ck.refl H m) (fun hf hd b c hl hlt => hkeep b hlt (fun c' hc' => hi.ne hid hc' hj hf hd hl hji rfl)) (hi.obj j o hj)
 ·exact fun i j b c b' c' h1 h2 => hi.sep i j b c b' c' (hown i h1).1 (hown j h2).1
 ·rintro i b c h1 h2 (hF | hg)
  ·exact hi.off i b c (hown i h1).1 h2 hF
  ·rcases (hG b hg).2 with ⟨c', hc'⟩ | h
   ·exact hi.sep i id b c b c' (hown i h1).1 hid (hown i h1).2 h2 hc' rfl
   ·have := hi.KY (hown i h1).1 h2; omega
 ·intro i T t' xs' b c hio hf hmi
  by_cases hii : i = id
  ·subst hii; exact .inr (hb b c hmi)
  ·refine .inl (hi.froz i T t' xs' b c hio ?_ hmi)
   rw [A1] at hf
   simpa [hii] using hf
 ·rintro b (h | h)
  ·exact Nat.lt_of_lt_of_le (hi.lt b h) size
  ·exact (hG b h).1
theorem AZX {w' : World} {F' : Nat → Prop} {m : Mp} {H : List Ob} {g cap : Nat} {vs : Array Value} {e : TypeId} {t : Ty} {zs : List t.den} {row : List Value} (hg : w'.heap[g]? = some (.cells vs e (0, 0))) (ht : vs.toList.take row.length = row)
  (hrows : rows (Dat w' F' t) zs row) (hle : zs.length ≤ cap) (hF : F' g) {n : Nat} (hn : n = zs.length) : Rep w' F' m H (.data (.slice t) zs) (.slice (some ⟨g, 0, none⟩) n cap) := by
 subst hn
 unfold Rep
 show Dat w' F' (.slice t) zs [_]
 refine ⟨some ⟨g, 0, none⟩, cap, rfl, hle, fun _ => ⟨⟨g, 0, none⟩, row, rfl, hF, hrows, fun j u hj => ?_⟩⟩
 rw [Addr.add_lit, Nat.zero_add]
 have hj' : vs.toList[j]? = some u := by
  rw [← ht, List.getElem?_take] at hj
  split at hj
  ·exact hj
  ·cases hj
 rw [Array.getElem?_toList] at hj'
 simp [World.cell?, hg, hj']
theorem AMk {w : World} {F : Nat → Prop} {m : Mp} {H : List Ob} {fz : List Bool} (hi : HI w F m H fz) {T e ty : TypeId} {t : Ty} {i : TypeInfo} {z : Value} (hu : P.underlying T = some (.slice e))
  (hi0 : P.info? e = some i) (hz : i.zero = some z) (hzs : z.cells.size = i.size) (hsz : i.size = t.size) (hpos : 0 < t.size) (hby : i.bytes ≤ 1024) {id : Nat} {xs : List t.den} (ho : H[id]? = some (.arr e t xs)) (hun : Ay fz id = true)
  {ys : List t.den} (hfit : xs.length + ys.length ≤ 4294967296)
  {A : Option Addr} {c : Nat} {news : List Value} (hA : ys ≠ [] → A.isSome = true) (hrows : rows (Dat w F t) ys news) (hnews : ∀ ad, A = some ad → ∀ j u, news[j]? = some u → w.cell? (ad.add j) = some u)
  {s : Value} (hs : Rep w F m H (.own id) s) :
  ∃ v w' F', (Builtin.append_ #[T, T] ty #[s, .slice A ys.length c]).run P w = .ok v w' ∧ Ax w F m H fz w' F' m H (Ak [id] fz) ∧ Rep w' F' m H (.data (.slice t) (xs ++ ys)) v := by
 have hk := fun (x : t.den) cs (h : Dat w F t x cs) => Dat.length t h
 have hl := BK hk hrows
 have hid := Cn ho hun
 unfold Rep at hs
 rw [ho] at hs
 have hob := hi.obj id _ ho
 obtain ⟨_, hob'⟩ := hob
 cases hm : m id with
 | none =>
  rw [hm] at hs hob'
  obtain ⟨a, rfl⟩ := hs
  simp only at hob'
  subst hob'
  obtain ⟨v, w', hrun, h1, h2, h3, h4, h5, h6⟩ := Kz (P := P) (w := w) (ty := ty) hu hi0 hz hzs a (A := A) (m := ys.length) (c := c) (news := news) (by rw [hl, hsz]) (fun h => hA (by rintro rfl; simp at h)) hnews (by simpa using hfit) hby
  have hg := ADX (w' := w') hi ho hun h1 h2 h3 h4 (fun k => k = w.heap.size ∧ k < w'.heap.size) (fun k hk => ⟨hk.2, .inr (Nat.le_of_eq hk.1.symm)⟩) (fun b c h => by rw [hm] at h; cases h) (fun k hk _ => h5 k hk) (by
   rw [hm]; exact ⟨hpos, rfl⟩)
  refine ⟨v, w', _, hrun, hg, ?_⟩
  rw [List.nil_append]
  rcases h6 with ⟨h0, rfl⟩ | ⟨cap', vs, rfl, q1, q2, q3, q4, q5⟩
  ·have hy : ys = [] := List.eq_nil_of_length_eq_zero h0
   subst hy
   unfold Rep
   exact ⟨a, 0, rfl, Nat.le_refl _, fun h => absurd rfl h⟩
  ·have hcell : ∀ a : Addr, F a.block → w'.cell? a = w.cell? a := fun a ha => by simp [World.cell?, h5 _ (hi.lt _ ha)]
   exact AZX q1 (by rw [hl, ← hsz]; exact q5) (BP (fun x _ cs hx => hx.mono hcell (fun _ h => .inl h) t) hrows) q2 (.inr ⟨rfl, BL q1⟩) rfl
 | some p =>
  obtain ⟨b, cap⟩ := p
  rw [hm] at hs hob'
  simp only [Bb] at hs
  obtain ⟨vs, row, e1, e2, e3, e4, e5, e6⟩ := hob'
  subst hs
  have hrl := BK hk e5
  have hblt : b < w.heap.size := BL e1
  have hG : ∀ (w' : World), w.heap.size ≤ w'.heap.size → ∀ k, (k = b ∨ (k = w.heap.size ∧ k < w'.heap.size)) → k < w'.heap.size ∧ ((∃ c, m id = some (k, c)) ∨ w.heap.size ≤ k) := by
   rintro w' h k (rfl | ⟨h1, h2⟩)
   ·exact ⟨Nat.lt_of_lt_of_le hblt h, .inl ⟨cap, hm⟩⟩
   ·exact ⟨h2, .inr (Nat.le_of_eq h1.symm)⟩
  have main : ∀ (w' : World) (vs0 : Array Value), w'.os = w.os → w'.tape = w.tape → w'.output = w.output → w.heap.size ≤ w'.heap.size → (∀ k, k < w.heap.size → k ≠ b → w'.heap[k]? = w.heap[k]?) → w'.heap[b]? = some (.cells vs0 e (0, 0)) → vs0.size = cap * t.size → vs0.toList.take row.length = row →
    (∀ a : Addr, F a.block → w'.cell? a = w.cell? a) ∧ Ax w F m H fz w' (fun k => F k ∨ (k = b ∨ (k = w.heap.size ∧ k < w'.heap.size))) m H (Ak [id] fz) := by
   intro w' vs0 h1 h2 h3 h4 h5 h6 h7 h8
   have hcell : ∀ a : Addr, F a.block → w'.cell? a = w.cell? a := fun a ha => by
    have h : a.block ≠ b := by rintro h; exact hi.off id b cap hid hm (h ▸ ha)
    simp [World.cell?, h5 _ (hi.lt _ ha) h]
   refine ⟨hcell, ADX hi ho hun h1 h2 h3 h4 _ (hG w' h4) (fun b' c' h => by rw [hm] at h; cases h; exact .inl rfl) (fun k hk hne => h5 k hk (by rintro rfl; exact hne cap hm)) ?_⟩
   rw [hm]
   exact ⟨hpos, vs0, row, h6, e2, e3, h7, BP (fun x _ cs hx => hx.mono hcell (fun _ h => .inl h) t) e5, h8⟩
  have hrr := KE e5 hrows
  have hlen : (row ++ news).length = (xs.length + ys.length) * t.size := by rw [List.length_append, hrl, hl, Nat.add_mul]
  have fin : ∀ (w' : World) (g cap' : Nat) (vs' : Array Value), (∀ a : Addr, F a.block → w'.cell? a = w.cell? a) → (g = b ∨ (g = w.heap.size ∧ g < w'.heap.size)) → w'.heap[g]? = some (.cells vs' e (0, 0)) → xs.length + ys.length ≤ cap' → vs'.toList.take (row ++ news).length = row ++ news →
    Rep w' (fun k => F k ∨ (k = b ∨ (k = w.heap.size ∧ k < w'.heap.size))) m H (.data (.slice t) (xs ++ ys)) (.slice (some ⟨g, 0, none⟩) (xs.length + ys.length) cap') := by
   intro w' g cap' vs' hcell hg hgv hle htk
   exact AZX hgv htk (BP (fun x _ cs hx => hx.mono hcell (fun _ h => .inl h) t) hrr) (by simpa using hle) (.inr hg) (by simp)
  cases A with
  | none =>
   have hy : ys = [] := by
    cases ys with
    | nil => rfl
    | cons a b => exact absurd (hA (by simp)) (by simp)
   subst hy
   obtain ⟨hc, hgo⟩ := main w vs rfl rfl rfl (Nat.le_refl _) (fun _ _ _ => rfl) e1 e4 e6
   have hn0 : news = [] := List.eq_nil_of_length_eq_zero (by rw [hl]; simp)
   subst hn0
   exact ⟨_, w, _, GB hu hi0 _ e2 none c, hgo, fin w b cap vs hc (.inl rfl) e1 (by simpa using e2) (by simpa using e6)⟩
  | some ad =>
   have hone : ∀ u ∈ news, u.oneCell' = true := fun u hu => XO (fun x cs (h : Dat w F t x cs) => Dat.Hk t h) hrows u hu
   by_cases hroom : xs.length + ys.length ≤ cap
   ·have hnl : news.length = ys.length * i.size := by rw [hl, hsz]
    have hsum : xs.length * i.size + news.length ≤ vs.size := by
     rw [hnl, e4, hsz, ← Nat.add_mul]; exact Nat.mul_le_mul_right _ hroom
    have hr := run_append_room (P := P) w T ty e i hu hi0 b xs.length cap vs e1 ad ys.length c news hnl (hnews ad rfl) hone hroom hsum
    have hrow : vs.toList.take (xs.length * i.size) = row := by rw [hsz, ← hrl]; exact e6
    rw [hrow] at hr
    obtain ⟨hc, hgo⟩ := main (w.setRow b (row ++ news ++ vs.toList.drop (xs.length * i.size + news.length)).toArray) (row ++ news ++ vs.toList.drop (xs.length * i.size + news.length)).toArray rfl rfl rfl (by simp) (fun k _ hk => setRow_other w b k _ hk) (setRow_heap w b vs (row ++ news ++ vs.toList.drop (xs.length * i.size + news.length)).toArray e _ e1) (by
     simp only [List.size_toArray, List.length_append, List.length_drop, Array.length_toList]
     rw [hrl, e4]
     rw [hsz] at hsum ⊢
     rw [e4] at hsum
     omega) (by rw [List.append_assoc]; exact List.take_left)
    exact ⟨_, _, _, hr, hgo, fin _ b cap _ hc (.inl rfl) (setRow_heap w b vs _ e _ e1) hroom (by exact List.take_left)⟩
   ·have hbytes : (xs.length + ys.length) * i.bytes ≤ 140737488355328 := Nat.le_trans (Nat.mul_le_mul hfit hby) (by omega)
    have holds : ∀ j u, row[j]? = some u → w.cell? ((⟨b, 0, none⟩ : Addr).add j) = some u := fun j u hj => by
     rw [Addr.add_lit, Nat.zero_add]
     have hj' : vs.toList[j]? = some u := by
      rw [← e6, List.getElem?_take] at hj
      split at hj
      ·exact hj
      ·cases hj
     rw [Array.getElem?_toList] at hj'
     simp [World.cell?, e1, hj']
    have hr := run_append_grow (P := P) w T ty e i z hu hi0 hz ⟨b, 0, none⟩ xs.length cap row (by rw [hrl, hsz]) holds ad ys.length c news (by rw [hl, hsz]) (hnews ad rfl) (by omega) (by omega) (growslice_fits (by omega) hbytes)
    obtain ⟨hc, hgo⟩ := main (w.drew.alloc (.cells (row.toArray ++ news.toArray ++ Builtin.zeroCells z.cells (grownCap w (xs.length + ys.length) cap e - (xs.length + ys.length))) e)) vs rfl rfl rfl (by simp) (fun k hk _ => heap_alloc_old w.drew _ k hk) ((heap_alloc_old w.drew _ b hblt).trans e1) e4 e6
    have hge := grownCap_ge w (xs.length + ys.length) cap e
    exact ⟨_, _, _, hr, hgo, fin _ w.heap.size _ _ hc (.inr ⟨rfl, BL (heap_alloc_new w.drew _)⟩) (heap_alloc_new w.drew _) hge (by
     rw [Array.toList_append, Array.toList_append]; exact List.take_left)⟩
end
end Go.Pev
end
section
namespace Go.Pev
open Go.RowKit
section
variable {P : Program}
theorem Abq {w : World} {F : Nat → Prop} {m : Mp} {H : List Ob} {fz : List Bool} (hi : HI w F m H fz) {id : Nat} {T : TypeId} {tgt : Nat} {is : List Int} (ho : H[id]? = some (.prs T tgt is)) {v : Value} (hv : Rep w F m H (.own id) v) :
  ∃ A c, v = .slice A is.length c ∧ (is ≠ [] → A.isSome = true) ∧ ∃ us, Ae w F m H (Ez tgt is) us ∧ (∀ u ∈ us, u.oneCell' = true) ∧ ∀ ad, A = some ad → ∀ j u, us[j]? = some u → w.cell? (ad.add j) = some u := by
 have hob := hi.obj id _ ho
 unfold Rep at hv
 rw [ho] at hv
 cases hm : m id with
 | none =>
  rw [hm] at hv hob
  obtain ⟨a, rfl⟩ := hv
  have hob : is = [] := hob
  subst hob
  exact ⟨a, 0, rfl, fun h => absurd rfl h, [], by show Ae w F m H [] []; unfold Ae; rfl, (by simp), fun _ _ j u h => by simp at h⟩
 | some p =>
  obtain ⟨b, cap⟩ := p
  rw [hm] at hv hob
  simp only [Bb] at hv
  obtain ⟨vs, us, e1, e2, e3, e4, e5, e6, e7⟩ := hob
  refine ⟨some ⟨b, 0, none⟩, cap, hv, fun _ => rfl, us, e5, e6, fun ad h j u hu => ?_⟩
  cases h
  rw [Cq, DT e1]
  have := CG e7 hu
  rw [← this]; congr 1; omega
theorem It {w : World} {F : Nat → Prop} {m : Mp} {H : List Ob} {fz : List Bool} (hi : HI w F m H fz) {slot : Nat} (hf : A3 H fz slot = true) {T e ty : TypeId} {i : TypeInfo} {z : Value} (hu : P.underlying T = some (.slice e))
  (hi0 : P.info? e = some i) (hz : i.zero = some z) (hzs : z.cells.size = 1) (hsz : i.size = 1) (hby : i.bytes ≤ 1024) {tgt : Nat} {ys : List Int} (hfit : ys.length ≤ 4294967296) (a : Option Addr)
  {A : Option Addr} {c : Nat} {news : List Value} (hA : ys ≠ [] → A.isSome = true) (hr : Ae w F m H (Ez tgt ys) news) (hone : ∀ u ∈ news, u.oneCell' = true) (hnews : ∀ ad, A = some ad → ∀ j u, news[j]? = some u → w.cell? (ad.add j) = some u) :
  ∃ v w' m', (Builtin.append_ #[T, T] ty #[.slice a 0 0, .slice A ys.length c]).run P w = .ok v w' ∧ Ax w F m H fz w' F m' (H.set slot (.prs e tgt ys)) fz ∧ Rep w' F m' (H.set slot (.prs e tgt ys)) (.own slot) v := by
 have hl : news.length = ys.length := by rw [Ar hr, Xi]
 obtain ⟨v, w', hrun, h1, h2, h3, h4, h5, h6⟩ := Kz (P := P) (w := w) (ty := ty) hu hi0 hz (by rw [hzs, hsz]) a (A := A) (m := ys.length) (c := c) (news := news) (by rw [hl, hsz]; omega) (fun h => hA (by rintro rfl; simp at h)) hnews hfit hby
 rcases h6 with ⟨h0, rfl⟩ | ⟨cap', vs, rfl, q1, q2, q3, q4, q5⟩
 ·have hy : ys = [] := List.eq_nil_of_length_eq_zero h0
  subst hy
  have hgw := Ax.grow hi h1 h2 h3 h4 h5
  obtain ⟨m', hg, hrep⟩ := AB2 hgw.2 hf e tgt a
  exact ⟨_, w', m', hrun, hgw.trans hg, hrep⟩
 ·obtain ⟨m', hg, hrep⟩ := PE hi hf q1 h1 h2 h3 h4 h5 q2 q3 (by rw [q4, hsz]; omega) hr hone (by rw [hsz, Nat.mul_one] at q5; rw [hl]; exact q5)
  exact ⟨_, w', m', hrun, hg, hrep⟩
theorem VX {w : World} {F : Nat → Prop} {m : Mp} {H : List Ob} {fz : List Bool} (hi : HI w F m H fz) {slot : Nat} (hf : A3 H fz slot = true) {T e ty : TypeId} {i : TypeInfo} {z : Value} (hu : P.underlying T = some (.slice e))
  (hi0 : P.info? e = some i) (hz : i.zero = some z) (hzs : z.cells.size = 1) (hsz : i.size = 1) (hby : i.bytes ≤ 1024) {tgt id : Nat} {xs : List Int} (ho : H[id]? = some (.prs e tgt xs))
  {b cap : Nat} (hm : m id = some (b, cap)) {ys : List Int} (hfit : xs.length + ys.length ≤ 4294967296)
  {A : Option Addr} {c : Nat} {news : List Value} (hA : ys ≠ [] → A.isSome = true) (hr : Ae w F m H (Ez tgt ys) news) (hone : ∀ u ∈ news, u.oneCell' = true) (hnews : ∀ ad, A = some ad → ∀ j u, news[j]? = some u → w.cell? (ad.add j) = some u) :
  ∃ v w' m', (Builtin.append_ #[T, T] ty #[.slice (some ⟨b, 0, none⟩) xs.length cap, .slice A ys.length c]).run P w = .ok v w' ∧
   Ax w F m H fz w' F m' ((H.set id .dead).set slot (.prs e tgt (xs ++ ys))) fz ∧ Rep w' F m' ((H.set id .dead).set slot (.prs e tgt (xs ++ ys))) (.own slot) v := by
 have hl : news.length = ys.length := by rw [Ar hr, Xi]
 have hob := hi.obj id _ ho
 rw [hm] at hob
 obtain ⟨vs, us, e1, e2, e3, e4, e5, e6, e7⟩ := hob
 have hul : us.length = xs.length := by rw [Ar e5, Xi]
 have hold : vs.toList.take (xs.length * i.size) = us := by rw [hsz, Nat.mul_one, ← hul]; exact e7
 obtain ⟨v, w', hrun, hgr⟩ := AAh (P := P) (w := w) (ty := ty) hu hi0 hz (by rw [hzs, hsz]) (by omega) e1 (n := xs.length) e2 e3 (by rw [e4, hsz]; omega) (A := A) (m := ys.length) (c := c) (news := news) (by rw [hl, hsz]; omega) (fun h => hA (by rintro rfl; simp at h)) hnews
  hone hfit hby
 rw [hold] at hgr
 have hlen : (xs ++ ys).length = xs.length + ys.length := List.length_append ..
 have hr0 : Ae w F m H (Ez tgt (xs ++ ys)) (us ++ news) := by rw [AXU]; exact F5 e5 hr
 have hone0 : ∀ u ∈ us ++ news, u.oneCell' = true := fun u hu => by
  rcases List.mem_append.1 hu with h | h
  ·exact e6 u h
  ·exact hone u h
 have hlts := Av (BW hf).1
 have hgs : ((H.set id .dead).set slot (.prs e tgt (xs ++ ys)))[slot]? = some (.prs e tgt (xs ++ ys)) := BT (by simpa using hlts)
 have hnl : (us ++ news).length = xs.length + ys.length := by rw [List.length_append, hul, hl]
 have main : ∀ (g cap' : Nat) (vs' : Array Value), (w.heap.size ≤ g ∨ g = b) → w'.heap[g]? = some (.cells vs' e (0, 0)) → xs.length + ys.length ≤ cap' → cap' ≤ maxLen → vs'.size = cap' → vs'.toList.take (xs.length + ys.length) = us ++ news →
   ∃ m', Ax w F m H fz w' F m' ((H.set id .dead).set slot (.prs e tgt (xs ++ ys))) fz ∧ Rep w' F m' ((H.set id .dead).set slot (.prs e tgt (xs ++ ys))) (.own slot) (.slice (some ⟨g, 0, none⟩) (xs.length + ys.length) cap') := by
  intro g cap' vs' hg q1 q2 q3 q4 q5
  have := Ax.move (w' := w') hi (ADE ho) hm hf (ob := .prs e tgt (xs ++ ys)) trivial (b' := g) (c' := cap') hg.symm hgr.os hgr.tape hgr.output hgr.size (fun k hk hne => hgr.keep k hk (fun b' h => by cases h; exact hne))
   (fun hmono => ⟨vs', us ++ news, q1, by rw [hlen]; exact q2, q3, q4, AMo hmono hr0, hone0, by rw [hnl]; exact q5⟩)
  refine ⟨_, this, ?_⟩
  unfold Rep
  rw [hgs, Aq, ← hlen]
  rfl
 rcases hgr.res with ⟨h0, rfl, rfl⟩ | ⟨g, cap', vs', rfl, q1, q2, q3, q4, q5, q6⟩
 ·have hy : ys = [] := List.eq_nil_of_length_eq_zero h0
  subst hy
  have hn0 : news = [] := List.eq_nil_of_length_eq_zero (by rw [hl]; rfl)
  subst hn0
  obtain ⟨m', hg, hrep⟩ := main b cap vs (.inr rfl) e1 (by simpa using e2) e3 e4 (by
   rw [List.append_nil, List.length_nil, Nat.add_zero, ← hul]
   exact e7)
  exact ⟨_, _, m', hrun, hg, by simpa using hrep⟩
 ·obtain ⟨m', hg, hrep⟩ := main g cap' vs' (by rcases q6 with h | h; exact .inl h; cases h; exact .inr rfl) q1 q2 q3 (by rw [q4, hsz]; omega) (by rw [hsz, Nat.mul_one] at q5; exact q5)
  exact ⟨_, _, m', hrun, hg, hrep⟩
end
end Go.Pev
end
section
namespace Go.Pev
open Go.RowKit
section
variable {P : Program} {E : Env}
theorem AHk (args : Array Operand) (ts : Array TypeId) : Claim P E (.call { callee := .builtin .append, args := args, argTypes := ts }) := by
 intro R ty ρ H fz slot k r h
 simp only [evalOp] at h
 split at h
 ·rename_i s x T T' ha hts
  obtain rfl := Abb ha
  obtain rfl := Abb hts
  split at h
  ·rename_i e t hsl hTT
   simp only [decide_eq_true_eq] at hTT
   subst hTT
   split at h
   ·rename_i ys fr zz hys hz hby
    obtain ⟨hu, hty0, hpos⟩ := DH hsl
    obtain ⟨t', cs'⟩ := zz
    obtain ⟨hty', hcs', i, z, hi0, hz0, hok, hsz, hza⟩ := B2 hz
    subst hcs'
    have : t' = t := by rw [hty0] at hty'; exact (Option.some.inj hty').symm
    subst this
    have hzs : z.cells.size = i.size := by
     have hzd := CB (w := default) (F := fun _ => False) t' _ hok
     rw [hsz, ← Array.length_toList]; exact Dat.length t' hzd
    have hby' : i.bytes ≤ 1024 := by simpa [hi0] using hby
    split at h
    ·rename_i et hs
     split at h
     ·rename_i hfit
      split at h
      ·rename_i hf
       refine ⟨_, _, h, fun R' k' => by simp only [evalOp, hsl, decide_true, hys, hz, hby, hs, hfit, hf], BB fun w F m ρc o hop hty hi hr => ?_⟩
       have hrs := hr s
       rw [hs] at hrs
       unfold Rep at hrs
       obtain ⟨A, c, q1, q2, q3, news, q4, q5⟩ := HV hi hys (hr x)
       obtain ⟨v, w', m', hrun, hg, hrep⟩ := JY (P := P) (ty := o.type) hi hf hu hi0 hz0 hzs hsz hpos hby' (by have : (ys.length : Int) ≤ 4294967296 := (HK _).1 hfit; omega) none (c := c) q3 q4 q5
       exact ⟨v, w', F, m', B8 hop hrs q1 hrun, hg, hrep⟩
      ·cases h
     ·cases h
    ·rename_i id hs
     split at h
     ·rename_i e' t2 xs ho
      split at h
      ·rename_i hue
       split at h
       ·rename_i xs' hc
        split at h
        ·rename_i hfit
         split at h
         ·rename_i hkp
          refine ⟨_, _, h, fun R' k' => by simp only [evalOp, hsl, decide_true, hys, hz, hby, hs, ho, hue, hc, hfit, hkp], BB fun w F m ρc o hop hty hi hr => ?_⟩
          simp only [Bool.and_eq_true, decide_eq_true_eq] at hue
          obtain ⟨hun, rfl⟩ := hue
          obtain ⟨et, hx⟩ := FN hc
          subst et; simp only at hx; subst hx
          have hrs := hr s
          rw [hs] at hrs
          obtain ⟨A, c, q1, q2, q3, news, q4, q5⟩ := HV hi hys (hr x)
          have hfit' : xs.length + ys.length ≤ 4294967296 := by
           have : ((xs.length : Int) + (ys.length : Int)) ≤ 4294967296 := (HK _).1 hfit
           omega
          obtain ⟨v, w', F', hrun, hg, hrep⟩ := AMk (P := P) (ty := o.type) hi hu hi0 hz0 hzs hsz hpos hby' ho hun hfit' (c := c) q3 q4 q5 hrs
          exact ⟨v, w', F', m, B8 hop rfl q1 hrun, hg, hrep⟩
         rename_i hkp
         split at h
         ·rename_i hf
          refine ⟨_, _, h, fun R' k' => by simp only [evalOp, hsl, decide_true, hys, hz, hby, hs, ho, hue, hc, hfit, hkp, hf], BB fun w F m ρc o hop hty hi hr => ?_⟩
          simp only [Bool.and_eq_true, decide_eq_true_eq] at hue
          obtain ⟨hun, rfl⟩ := hue
          obtain ⟨et, hx⟩ := FN hc
          subst et; simp only at hx; subst hx
          have hrs := hr s
          rw [hs] at hrs
          unfold Rep at hrs
          rw [ho] at hrs
          obtain ⟨A, c, q1, q2, q3, news, q4, q5⟩ := HV hi hys (hr x)
          have hfit' : xs.length + ys.length ≤ 4294967296 := by
           have : ((xs.length : Int) + (ys.length : Int)) ≤ 4294967296 := (HK _).1 hfit
           omega
          have hsn := ASb hf ho
          cases hm : m id with
          | none =>
           obtain ⟨_, hob⟩ := hi.obj id _ ho
           rw [hm] at hrs hob
           obtain ⟨a, e1⟩ := hrs
           simp only at hob; subst hob
           have hkill := Ax.kill hi (Cn ho hun)
           obtain ⟨v, w', m', hrun, hg, hrep⟩ := JY (P := P) (ty := o.type) hkill.2 (NM hf hsn) hu hi0 hz0 hzs hsz hpos hby' (by simpa using hfit') a (c := c) q3 q4 q5
           exact ⟨v, w', F, m', B8 hop e1 q1 hrun, hkill.trans hg, hrep⟩
          | some p =>
           obtain ⟨b, cap⟩ := p
           rw [hm] at hrs
           simp only [Bb] at hrs
           obtain ⟨v, w', m', hrun, hg, hrep⟩ := UJ (P := P) (ty := o.type) hi hf hu hi0 hz0 hzs hsz hpos hby' ho hun hm (Nat.le_refl _) hfit' (c := c) q3 q4 q5
           rw [List.take_length] at hg hrep
           exact ⟨v, w', F, m', B8 hop hrs q1 hrun, hg, hrep⟩
         ·cases h
        ·cases h
       ·cases h
      ·cases h
     ·cases h
    ·rename_i id n hs
     split at h
     ·rename_i e' t2 xs ho
      split at h
      ·rename_i hue
       split at h
       ·rename_i xs' hc
        split at h
        ·rename_i hfit
         split at h
         ·rename_i hf
          refine ⟨_, _, h, fun R' k' => by simp only [evalOp, hsl, decide_true, hys, hz, hby, hs, ho, hue, hc, hfit, hf], BB fun w F m ρc o hop hty hi hr => ?_⟩
          simp only [Bool.and_eq_true, decide_eq_true_eq] at hue
          obtain ⟨hun, rfl⟩ := hue
          obtain ⟨et, hx⟩ := FN hc
          subst et; simp only at hx; subst hx
          have hrs := hr s
          rw [hs] at hrs
          unfold Rep at hrs
          rw [ho] at hrs
          obtain ⟨hle, hrs⟩ := hrs
          obtain ⟨A, c, q1, q2, q3, news, q4, q5⟩ := HV hi hys (hr x)
          have hfit' : n + ys.length ≤ 4294967296 := by
           have : ((n : Int) + (ys.length : Int)) ≤ 4294967296 := (HK _).1 hfit
           omega
          have hsn := ASb hf ho
          obtain ⟨_, hob⟩ := hi.obj id _ ho
          have zero : ∀ a, n = 0 → ρc s = .slice a 0 0 → ∃ u w' F' m', (execOp ρc o).run P w = .ok (.value u) w' ∧ Ax w F m H fz w' F' m' ((H.set id .dead).set slot (.arr e _ (A8 (DB n xs) ys))) fz ∧
            Rep w' F' m' ((H.set id .dead).set slot (.arr e _ (A8 (DB n xs) ys))) (.own slot) u := by
           intro a h0 e1
           subst h0
           have hkill := Ax.kill hi (Cn ho hun)
           obtain ⟨v, w', m', hrun, hg, hrep⟩ := JY (P := P) (ty := o.type) hkill.2 (NM hf hsn) hu hi0 hz0 hzs hsz hpos hby' (by simpa using hfit') a (c := c) q3 q4 q5
           exact ⟨v, w', F, m', B8 hop e1 q1 hrun, hkill.trans hg, hrep⟩
          cases hm : m id with
          | none =>
           rw [hm] at hrs hob
           obtain ⟨a, e1⟩ := hrs
           simp only at hob; subst hob
           have hn : n = 0 := by simpa using hle
           exact zero a hn (by rw [e1, hn])
          | some p =>
           obtain ⟨b, cap⟩ := p
           rw [hm] at hrs hob
           obtain ⟨a, e1, e2⟩ := hrs
           obtain ⟨vs, row, o1, o2, _⟩ := hob
           rcases Nat.eq_zero_or_pos cap with hcap | hcap
           ·exact zero a (by omega) (by rw [e1, hcap, show n = 0 from by omega])
           ·have ha := e2 hcap
            rw [Nat.zero_mul] at ha
            subst ha
            obtain ⟨v, w', m', hrun, hg, hrep⟩ := UJ (P := P) (ty := o.type) hi hf hu hi0 hz0 hzs hsz hpos hby' ho hun hm (n := n) (by omega) hfit' (c := c) q3 q4 q5
            exact ⟨v, w', F, m', B8 hop e1 q1 hrun, hg, hrep⟩
         ·cases h
        ·cases h
       ·cases h
      ·cases h
     ·cases h
    ·cases h
   ·cases h
  ·rename_i e t hsl hTT
   split at h
   ·rename_i et j n zz kk hs hx hz hk hby
    split at h
    ·rename_i hfit
     split at h
     ·rename_i hf
      refine ⟨_, _, h, fun R' k' => by simp only [evalOp, hsl, hTT, hs, hx, hz, hk, hby, hfit, hf], BB fun w F m ρc o hop hty hi hr => ?_⟩
      obtain ⟨hu, hty0, hpos⟩ := DH hsl
      obtain ⟨t', cs'⟩ := zz
      obtain ⟨hty', hcs', i, z, hi0, hz0, hok, hsz, hza⟩ := B2 hz
      subst hcs'
      have : t' = t := by rw [hty0] at hty'; exact (Option.some.inj hty').symm
      subst this
      rw [Ij] at hfit
      obtain ⟨n', rfl⟩ := Int.eq_ofNat_of_zero_le hfit.1
      have hrs := hr s
      rw [hs] at hrs
      unfold Rep at hrs
      have e2 := BA (hx ▸ hr x)
      have hby' : i.bytes ≤ 1024 := by simpa [hi0] using hby
      obtain ⟨v, w', m', hrun, hg, hrep⟩ := AMj (P := P) (ty := o.type) hi hf hu hi0 hz0 hok hsz hpos hby' (T3 hk) (kx := j) (n := n') (by omega)
      exact ⟨v, w', F, m', AHL hop hrs e2 hrun, hg, hrep⟩
     ·cases h
    ·cases h
   ·cases h
  ·rename_i hsl hTT
   simp only [decide_eq_true_eq] at hTT
   subst hTT
   split at h
   ·rename_i e ix hce hx
    split at h
    ·rename_i e1 tgt ys hox
     split at h
     ·rename_i he
      simp only [decide_eq_true_eq] at he
      subst he
      obtain ⟨hu, ii, z, hi0, hz0, hsz, hzs, hby⟩ := UH hce
      split at h
      ·rename_i et hs
       split at h
       ·rename_i hfit
        split at h
        ·rename_i hf
         refine ⟨_, _, h, fun R' k' => by simp only [evalOp, hsl, decide_true, hce, hx, hox, hs, hfit, hf], BB fun w F m ρc o hop hty hi hr => ?_⟩
         have hrs := hr s
         rw [hs] at hrs
         unfold Rep at hrs
         obtain ⟨A, c, q1, q2, news, q3, q4, q5⟩ := Abq hi hox (hx ▸ hr x)
         obtain ⟨v, w', m', hrun, hg, hrep⟩ := It (P := P) (ty := o.type) hi hf hu hi0 hz0 hzs hsz hby (by have : (ys.length : Int) ≤ 4294967296 := (HK _).1 hfit; omega) none (c := c) q2 q3 q4 q5
         exact ⟨v, w', F, m', B8 hop hrs q1 hrun, hg, hrep⟩
        ·cases h
       ·cases h
      ·rename_i id hs
       split at h
       ·rename_i e2 tgt2 xs ho
        split at h
        ·rename_i hue
         split at h
         ·rename_i hfit
          split at h
          ·rename_i hf
           refine ⟨_, _, h, fun R' k' => by simp only [evalOp, hsl, decide_true, hce, hx, hox, hs, ho, hue, hfit, hf], BB fun w F m ρc o hop hty hi hr => ?_⟩
           simp only [Bool.and_eq_true, decide_eq_true_eq] at hue
           obtain ⟨rfl, rfl⟩ := hue
           have hrs := hr s
           rw [hs] at hrs
           unfold Rep at hrs
           rw [ho] at hrs
           obtain ⟨A, c, q1, q2, news, q3, q4, q5⟩ := Abq hi hox (hx ▸ hr x)
           have hfit' : xs.length + ys.length ≤ 4294967296 := by
            have : ((xs.length : Int) + (ys.length : Int)) ≤ 4294967296 := (HK _).1 hfit
            omega
           have hsn := ALw hf ho
           cases hm : m id with
           | none =>
            have hob := hi.obj id _ ho
            rw [hm] at hrs hob
            obtain ⟨a, e1⟩ := hrs
            have hob : xs = [] := hob
            subst hob
            have hkill := Ax.kill hi (ADE ho)
            obtain ⟨v, w', m', hrun, hg, hrep⟩ := It (P := P) (ty := o.type) hkill.2 (NM hf hsn) hu hi0 hz0 hzs hsz hby (by simpa using hfit') a (c := c) q2 (hkill.1.Acs hi q3) q4 q5
            exact ⟨v, w', F, m', B8 hop e1 q1 hrun, hkill.trans hg, hrep⟩
           | some p =>
            obtain ⟨b, cap⟩ := p
            rw [hm] at hrs
            simp only [Bb] at hrs
            obtain ⟨v, w', m', hrun, hg, hrep⟩ := VX (P := P) (ty := o.type) hi hf hu hi0 hz0 hzs hsz hby ho hm hfit' (c := c) q2 q3 q4 q5
            exact ⟨v, w', F, m', B8 hop hrs q1 hrun, hg, hrep⟩
          ·cases h
         ·cases h
        ·cases h
       ·cases h
      ·cases h
     ·cases h
    ·cases h
   ·cases h
  ·cases h
 ·cases h
end
end Go.Pev
end
section
namespace Go.Pev
open Go.RowKit
section
variable {P : Program} {E : Env}
theorem AV4 (args : Array Operand) (ts : Array TypeId) : Claim P E (.call { callee := .builtin .cap, args := args, argTypes := ts }) := by
 intro R ty ρ H fz slot k r h
 simp only [evalOp] at h
 split at h
 ·rename_i x T ha hts
  obtain rfl := AWL ha
  obtain rfl := AWL hts
  split at h
  ·rename_i e et hu hx
   refine ⟨_, _, h, fun R' k' => by simp only [evalOp, hu, hx], AY fun w F m ρc o hop hty hi hr => ⟨.int .i64 0, ?_, As _ _⟩⟩
   have hrx := hr x
   rw [hx] at hrx
   unfold Rep at hrx
   simp [execOp, hop, resolve, invoke, builtin, hrx, Builtin.cap_, run_underlying hu, goInt]
  ·cases h
 ·cases h
theorem AV1 (args : Array Operand) (ts : Array TypeId) : Claim P E (.call { callee := .builtin .min, args := args, argTypes := ts }) := by
 intro R ty ρ H fz slot k r h
 simp only [evalOp] at h
 split at h
 ·rename_i x y ha
  obtain rfl := Abb ha
  split at h
  ·rename_i j a j' b hx hy
   refine ⟨_, _, h, fun R' k' => by simp only [evalOp, hx, hy], AY fun w F m ρc o hop hty hi hr => ⟨.int j (Ci a b), ?_, As _ _⟩⟩
   have e1 := BA (hx ▸ hr x)
   have e2 := BA (hy ▸ hr y)
   simp [execOp, hop, resolve, invoke, builtin, e1, e2, run_min_int2, Ci]
  ·cases h
 ·cases h
theorem ABK {w : World} (ts : Array TypeId) (t : TypeId) (k k' : IntKind) (x y : Int) : (Builtin.max_ ts t #[.int k x, .int k' y]).run P w = .ok (.int k (if y > x then y else x)) w := by
 simp [Builtin.max_, Builtin.max2]
theorem AV2 (args : Array Operand) (ts : Array TypeId) : Claim P E (.call { callee := .builtin .max, args := args, argTypes := ts }) := by
 intro R ty ρ H fz slot k r h
 simp only [evalOp] at h
 split at h
 ·rename_i x y ha
  obtain rfl := Abb ha
  split at h
  ·rename_i j a j' b hx hy
   refine ⟨_, _, h, fun R' k' => by simp only [evalOp, hx, hy], AY fun w F m ρc o hop hty hi hr => ⟨.int j (imax a b), ?_, As _ _⟩⟩
   have e1 := BA (hx ▸ hr x)
   have e2 := BA (hy ▸ hr y)
   simp [execOp, hop, resolve, invoke, builtin, e1, e2, ABK, imax]
  ·cases h
 ·cases h
theorem AJD {H : List Ob} {i : Nat} {o : Ob} (h : H[i]? = some o) : H.set i o = H := by
 apply List.ext_getElem?
 intro j
 by_cases hij : j = i
 ·subst hij; rw [BT (Av h), h]
 ·rw [A0 hij]
theorem AAC {α : Type} {off n : Nat} {z : α} {xs : List α} (h : off + n ≤ xs.length) : (Cc off n z xs).length = xs.length := by
 simp only [Cc, List.length_append, List.length_take, List.length_replicate, List.length_drop]; omega
theorem AMG {α : Type} (off : Nat) (z : α) (xs : List α) : Cc off 0 z xs = xs := by simp [Cc]
theorem AD1 {w : World} {F : Nat → Prop} {m : Mp} {H : List Ob} {fz : List Bool} (hi : HI w F m H fz) {id : Nat} {T : TypeId} {t : Ty} {xs : List t.den} (ho : H[id]? = some (.arr T t xs)) (hf : Ay fz id = true)
  {b cap : Nat} (hm : m id = some (b, cap)) {off n : Nat} (hle : off + n ≤ xs.length) {z : List Value} (hz : Dat w F t t.zero z) (h1 : ∀ u ∈ z, u.oneCell' = true) {zs : Array Value} (hzs : zs.toList = (List.replicate n z).flatten) :
  ∃ w', (storeCells ⟨b, off * t.size, none⟩ zs.toList).run P w = .ok () w' ∧ Ax w F m H fz w' F m (H.set id (.arr T t (Cc off n t.zero xs))) fz := by
 have hob := hi.obj id _ ho
 obtain ⟨h0, hob⟩ := hob
 rw [hm] at hob
 obtain ⟨vs, row, e1, e2, e3, e4, e7, e8⟩ := hob
 have hk := fun (x : t.den) cs (h : Dat w F t x cs) => Dat.length t h
 have hlen := BK hk e7
 have hrz := EV (w := w) (F := F) hz n
 have hdl := BK hk hrz
 rw [List.length_replicate, ← hzs] at hdl
 have hle1 : off * t.size + n * t.size ≤ xs.length * t.size := by
  have := Nat.mul_le_mul_right t.size hle
  rwa [Nat.add_mul] at this
 have hle2 : xs.length * t.size ≤ cap * t.size := Nat.mul_le_mul_right _ e2
 have hvl : vs.toList.length = cap * t.size := by rw [Array.length_toList, e4]
 have hst := run_storeCells_at P b (off * t.size) T zs.toList 0 vs w e1 (by simp only [Nat.add_zero, hdl, e4]; omega) (by
  intro u hu
  rw [hzs, List.mem_flatten] at hu
  obtain ⟨l, hl, hul⟩ := hu
  rw [List.eq_of_mem_replicate hl] at hul
  exact h1 u hul)
 simp only [Nat.add_zero, hdl] at hst
 obtain ⟨r1, r2, r3, r4, r5⟩ := KB (w := w) (b := b) (cs := (vs.toList.take (off * t.size) ++ zs.toList ++ vs.toList.drop (off * t.size + n * t.size)).toArray)
 refine ⟨_, hst, ?_⟩
 refine Ax.set hi (Cn ho hf) hm ho ⟨rfl, (AAC hle).symm⟩ r1 r2 r3 r4 r5 fun hmono => ?_
 refine ⟨h0, ?_⟩
 rw [hm]
 refine ⟨_, row.take (off * t.size) ++ (zs.toList ++ row.drop (off * t.size + n * t.size)), setRow_heap w b vs _ T _ e1, by rw [AAC hle]; exact e2, e3, ?_, ?_, ?_⟩
 ·simp only [List.size_toArray, List.length_append, List.length_take, List.length_drop, hvl, hdl]; omega
 ·have hcell : ∀ a : Addr, F a.block → (w.setRow b (vs.toList.take (off * t.size) ++ zs.toList ++ vs.toList.drop (off * t.size + n * t.size)).toArray).cell? a = w.cell? a := fun a ha =>
   cell_setRow_other w b _ a (by rintro rfl; exact hi.off id _ cap (Cn ho hf) hm ha)
  refine BP (R := Dat w F t) (fun x _ cs hx => hx.mono hcell (fun _ h => h) t) ?_
  have := IN hk (off + n) e7
  rw [Nat.add_mul] at this
  exact KE (Eu hk off e7) (KE (by rw [hzs]; exact hrz) this)
 ·have hrl : (row.take (off * t.size) ++ (zs.toList ++ row.drop (off * t.size + n * t.size))).length = row.length := by
   simp only [List.length_append, List.length_take, List.length_drop, hdl]; omega
  rw [hrl]
  show List.take row.length (vs.toList.take (off * t.size) ++ zs.toList ++ vs.toList.drop (off * t.size + n * t.size)) = _
  have h1 : row.take (off * t.size) = vs.toList.take (off * t.size) := by
   rw [← e8, List.take_take, Nat.min_eq_left (by omega)]
  have h2 : row.drop (off * t.size + n * t.size) = (vs.toList.drop (off * t.size + n * t.size)).take (row.length - (off * t.size + n * t.size)) := by
   conv => lhs; rw [← e8]
   rw [List.drop_take]
  rw [h1, h2, List.take_append, List.take_of_length_le (by simp only [List.length_append, List.length_take, hvl, hdl]; omega), List.append_assoc]
  congr 3
  simp only [List.length_append, List.length_take, hvl, hdl]; omega
theorem HM {w w' : World} {ρc : Operand → Value} {o : Oper} {T : TypeId} {x : Operand} {v : Value} (hop : o.op = .call { callee := .builtin .clear, args := #[x], argTypes := #[T] }) (e1 : ρc x = v)
  (hrun : (Builtin.clear_ #[T] o.type #[v]).run P w = .ok (.tuple #[]) w') : (execOp ρc o).run P w = .ok (.value (.tuple #[])) w' := by simp [execOp, hop, resolve, invoke, builtin, e1, hrun]
theorem Gz {w : World} {T e ty : TypeId} (hu : P.underlying T = some (.slice e)) (a : Option Addr) (c : Nat) : (Builtin.clear_ #[T] ty #[.slice a 0 c]).run P w = .ok (.tuple #[]) w := by
 cases a <;> simp [Builtin.clear_, run_underlying hu]
theorem KC {w w' : World} {T e ty : TypeId} (hu : P.underlying T = some (.slice e)) {i : TypeInfo} {z : Value} (hi0 : P.info? e = some i) (hz : i.zero = some z) (a : Addr) {n : Nat} (hn : 0 < n) (c : Nat)
  (h : (storeCells a (Builtin.zeroCells z.cells n).toList).run P w = .ok () w') : (Builtin.clear_ #[T] ty #[.slice (some a) n c]).run P w = .ok (.tuple #[]) w' := by
 obtain ⟨m, rfl⟩ : ∃ m, n = m + 1 := ⟨n - 1, by omega⟩
 simp [Builtin.clear_, run_underlying hu, Bx hi0 hz, h]
theorem ASh {w : World} {F : Nat → Prop} {t : Ty} {d : t.den} {z : List Value} (h : Dat w F t d z) : ∀ u ∈ z, u.oneCell' = true := fun u hu => Dat.Hk t h u hu
theorem AMU (args : Array Operand) (ts : Array TypeId) : Claim P E (.call { callee := .builtin .clear, args := args, argTypes := ts }) := by
 intro R ty ρ H fz slot k r h
 simp only [evalOp] at h
 split at h
 ·rename_i x T ha hts
  obtain rfl := AWL ha
  obtain rfl := AWL hts
  split at h
  ·rename_i e t hsl
   split at h
   ·rename_i zz hz
    obtain ⟨hu, hty0, hpos⟩ := DH hsl
    obtain ⟨t', cs'⟩ := zz
    obtain ⟨hty', hcs', i, z, hi0, hz0, hok, hsz, hza⟩ := B2 hz
    subst hcs'
    have : t' = t := by rw [hty0] at hty'; exact (Option.some.inj hty').symm
    subst this
    have hcells : ∀ k, (Builtin.zeroCells z.cells k).toList = (List.replicate k z.cells.toList).flatten := DJ z.cells
    split at h
    ·rename_i et hx
     refine ⟨_, _, h, fun R' k' => by simp only [evalOp, hsl, hz, hx], BB fun w F m ρc o hop hty hi hr => ?_⟩
     have hrx := hr x
     rw [hx] at hrx
     unfold Rep at hrx
     exact ⟨_, w, F, m, HM hop hrx (Gz hu _ _), Ax.refl hi, by unfold Rep; trivial⟩
    ·rename_i id hx
     split at h
     ·rename_i e' t2 xs ho
      split at h
      ·rename_i hun
       refine ⟨_, _, h, fun R' k' => by simp only [evalOp, hsl, hz, hx, ho, hun], BB fun w F m ρc o hop hty hi hr => ?_⟩
       simp only [Bool.and_eq_true, decide_eq_true_eq] at hun
       obtain ⟨hun, ht⟩ := hun
       subst ht
       have hzd := CB (w := w) (F := F) t' _ hok
       have hrx := hr x
       rw [hx] at hrx
       unfold Rep at hrx
       rw [ho] at hrx
       obtain ⟨_, hob⟩ := hi.obj id _ ho
       have none_ : xs = [] → ∀ a c, ρc x = .slice a 0 c → ∃ u w' F' m', (execOp ρc o).run P w = .ok (.value u) w' ∧ Ax w F m H fz w' F' m' (D7 { objs := [(id, .arr e' t' (Cc 0 xs.length t'.zero xs))] } H) (Ja { objs := [(id, .arr e' t' (Cc 0 xs.length t'.zero xs))] } fz) ∧
         Rep w' F' m' (D7 { objs := [(id, .arr e' t' (Cc 0 xs.length t'.zero xs))] } H) .junk u := by
        intro hxs a c e1
        refine ⟨_, w, F, m, HM hop e1 (Gz hu _ _), ?_, by unfold Rep; trivial⟩
        have : Cc 0 xs.length t'.zero xs = xs := by rw [hxs]; rfl
        rw [this]
        have hs : D7 { objs := [(id, .arr e' t' xs)] } H = H := AJD ho
        rw [hs]
        exact Ax.refl hi
       cases hm : m id with
       | none =>
        rw [hm] at hrx hob
        obtain ⟨a, e1⟩ := hrx
        simp only at hob
        exact none_ hob a 0 e1
       | some p =>
        obtain ⟨b, cap⟩ := p
        rw [hm] at hrx
        simp only [Bb] at hrx
        rcases Nat.eq_zero_or_pos xs.length with hl | hl
        ·exact none_ (List.eq_nil_of_length_eq_zero hl) (some ⟨b, 0, none⟩) cap (by rw [hrx, hl])
        ·obtain ⟨w', hst, hg⟩ := AD1 (P := P) hi ho hun hm (off := 0) (n := xs.length) (by omega) hzd (ASh hzd) (hcells xs.length)
         rw [Nat.zero_mul] at hst
         exact ⟨_, w', F, m, HM hop hrx (KC hu hi0 hz0 _ hl _ hst), hg, by unfold Rep; trivial⟩
      ·cases h
     ·cases h
    ·rename_i id off n hx
     split at h
     ·rename_i e' t2 xs ho
      split at h
      ·rename_i hun
       refine ⟨_, _, h, fun R' k' => by simp only [evalOp, hsl, hz, hx, ho, hun], BB fun w F m ρc o hop hty hi hr => ?_⟩
       simp only [Bool.and_eq_true, decide_eq_true_eq] at hun
       obtain ⟨hun, ht⟩ := hun
       subst ht
       have hzd := CB (w := w) (F := F) t' _ hok
       have hrx := hr x
       rw [hx] at hrx
       unfold Rep at hrx
       rw [ho] at hrx
       obtain ⟨hle, hrx⟩ := hrx
       obtain ⟨_, hob⟩ := hi.obj id _ ho
       have none_ : n = 0 → ∀ a c, ρc x = .slice a n c → ∃ u w' F' m', (execOp ρc o).run P w = .ok (.value u) w' ∧ Ax w F m H fz w' F' m' (D7 { objs := [(id, .arr e' t' (Cc off n t'.zero xs))] } H) (Ja { objs := [(id, .arr e' t' (Cc off n t'.zero xs))] } fz) ∧
         Rep w' F' m' (D7 { objs := [(id, .arr e' t' (Cc off n t'.zero xs))] } H) .junk u := by
        intro hxs a c e1
        subst hxs
        refine ⟨_, w, F, m, HM hop e1 (Gz hu _ _), ?_, by unfold Rep; trivial⟩
        rw [AMG]
        have hs : D7 { objs := [(id, .arr e' t' xs)] } H = H := AJD ho
        rw [hs]
        exact Ax.refl hi
       cases hm : m id with
       | none =>
        rw [hm] at hrx hob
        obtain ⟨a, e1⟩ := hrx
        simp only at hob
        subst hob
        exact none_ (by simp at hle; omega) a 0 e1
       | some p =>
        obtain ⟨b, cap⟩ := p
        rw [hm] at hrx hob
        obtain ⟨vs, row, o1, o2, _⟩ := hob
        obtain ⟨a, e1, e2⟩ := hrx
        rcases Nat.eq_zero_or_pos n with hl | hl
        ·exact none_ hl a _ e1
        ·have ha := e2 (by omega)
         subst ha
         obtain ⟨w', hst, hg⟩ := AD1 (P := P) hi ho hun hm (off := off) (n := n) hle hzd (ASh hzd) (hcells n)
         exact ⟨_, w', F, m, HM hop e1 (KC hu hi0 hz0 _ hl _ hst), hg, by unfold Rep; trivial⟩
      ·cases h
     ·cases h
    ·cases h
   ·cases h
  ·cases h
 ·cases h
end
end Go.Pev
end
section
namespace Go.Pev
open Go.RowKit
section
variable {P : Program}
def CL : (t : Ty) → t.den → List Value
 | .unit, _ => []
 | .bool, b => [.bool b]
 | .int k, n => [.int k n]
 | .prod a b, d => CL a d.1 ++ CL b d.2
 | .slice _, _ => []
 | .arr _ _, _ => []
def Bt (t : Ty) (d : t.den) : Value := match t, d with
 | .int k, n => .int k n
 | t, d => .agg (CL t d).toArray
structure AWP (P : Program) (kt : TypeId) (t : Ty) : Prop where
 rep : ∀ (w : World) (F : Nat → Prop) (d : t.den) (v : Value), Bd w F t d v ↔ v = Bt t d
 check : ∀ (w : World) (b : Bool) (d : t.den), (Instr.checkKey b 10000 kt (Bt t d)).run P w = .ok () w
 stays : ∀ (w : World) (d : t.den), (Instr.keyThatStays (Bt t d) (Bt t d)).run P w = .ok (Bt t d) w
 find : ∀ (w : World) (F : Nat → Prop) (b : Ty) (key : t.den) (es : List (t.den × b.den)) (ms : List MapEntry), Hc w F t b es ms →
  (@Da _ _ (decDen t) es key = none ∧ @AR _ _ (decDen t) es key = none ∧ (Instr.findKey kt (Bt t key) ms).run P w = .ok none w) ∨
  (∃ x n me, @Da _ _ (decDen t) es key = some n ∧ @AR _ _ (decDen t) es key = some x ∧ (Instr.findKey kt (Bt t key) ms).run P w = .ok (some (n, me.val)) w ∧ ms[n]? = some me ∧ Bd w F b x me.val ∧ me.key = Bt t key)
theorem AWP.store {kt : TypeId} {t : Ty} (hK : AWP P kt t) {w : World} {F : Nat → Prop} {b : Ty} (key : t.den) (val : b.den) (v : Value) (hv : Bd w F b val v) : ∀ {es : List (t.den × b.den)} {ms : List MapEntry}, Hc w F t b es ms →
  (∀ clock, @Da _ _ (decDen t) es key = none → Hc w F t b (@Ag _ _ (decDen t) es key val) (ms ++ [{ key := Bt t key, val := v, born := clock }])) ∧
  (∀ n, @Da _ _ (decDen t) es key = some n → Hc w F t b (@Ag _ _ (decDen t) es key val) (ms.modify n fun e => { e with key := Bt t key, val := v })) := by
 haveI := decDen t
 intro es
 induction es with
 | nil =>
  rintro ms rfl
  exact ⟨fun clock _ => ⟨_, [], rfl, ⟨(hK.rep w F key _).2 rfl, hv⟩, rfl⟩, fun n h => by simp [Da] at h⟩
 | cons e es ih =>
  rintro ms ⟨me0, ms', rfl, ⟨h1, h2⟩, h3⟩
  obtain ⟨a, x⟩ := e
  obtain ⟨ih1, ih2⟩ := ih h3
  by_cases hak : a = key
  ·subst hak
   refine ⟨fun clock h => by simp [Da] at h, fun n h => ?_⟩
   simp only [Da, if_true, Option.some.injEq] at h
   subst h
   simp only [Ag, if_true, List.modify_zero_cons]
   exact ⟨_, ms', rfl, ⟨(hK.rep w F a _).2 rfl, hv⟩, h3⟩
  ·simp only [Ag, hak, if_false, Da]
   refine ⟨fun clock h => ?_, fun n h => ?_⟩
   ·rw [Option.map_eq_none_iff] at h
    exact ⟨me0, _, rfl, ⟨h1, h2⟩, ih1 clock h⟩
   ·rw [Option.map_eq_some_iff] at h
    obtain ⟨n', h', rfl⟩ := h
    rw [List.modify_succ_cons]
    exact ⟨me0, _, rfl, ⟨h1, h2⟩, ih2 n' h'⟩
theorem Aay {kt : TypeId} {j : IntKind} (hu : P.underlying kt = some (.int j)) : AWP P kt (.int j) := by
 have hrep : ∀ (w : World) (F : Nat → Prop) (d : Int) (v : Value), Bd w F (.int j) d v ↔ v = .int j d := by
  intro w F d v
  show Dat w F (.int j) d [v] ↔ _
  simp [Dat]
 refine ⟨hrep, fun w b d => ?_, fun w d => ?_, fun w F b key es ms h => ?_⟩
 ·have gen : ∀ n, (Instr.checkKey b (n + 1) kt (.int j d)).run P w = .ok () w := fun n => by simp [Instr.checkKey, run_underlying hu]
  exact gen 9999
 ·have gen : ∀ n, Instr.sameBits n (.int j d) (.int j d) = true := fun n => by cases n <;> simp [Instr.sameBits]
  show (Instr.keyThatStays (.int j d) (.int j d)).run P w = _
  simp [Instr.keyThatStays, gen]
  rfl
 ·have hfk : ∀ r, Instr.findNow (.int j) (.int j key) ms 0 = some r → (Instr.findKey kt (.int j key) ms).run P w = .ok r w := by
   intro r hr'
   simp [Instr.findKey, run_underlying hu, hr']
  have gen : ∀ (es : List (Int × b.den)) (ms : List MapEntry) (i : Nat), Hc w F (.int j) b es ms →
    (Da (α := Int) es key = none ∧ AR (α := Int) es key = none ∧ Instr.findNow (.int j) (.int j key) ms i = some none) ∨
    (∃ x n me, Da (α := Int) es key = some n ∧ AR (α := Int) es key = some x ∧ Instr.findNow (.int j) (.int j key) ms i = some (some (i + n, me.val)) ∧ ms[n]? = some me ∧ Bd w F b x me.val ∧ me.key = .int j key) := by
   intro es
   induction es with
   | nil => rintro ms i rfl; exact .inl ⟨rfl, rfl, rfl⟩
   | cons e es ih =>
    rintro ms i ⟨me, ms', rfl, ⟨h1, h2⟩, h3⟩
    obtain ⟨a, x⟩ := e
    have hk := (hrep w F a _).1 h1
    simp only at h2
    by_cases hak : a = key
    ·subst hak
     refine .inr ⟨x, 0, me, by simp [Da], by simp [AR], ?_, rfl, h2, hk⟩
     simp [Instr.findNow, Instr.sameNow, hk]
    ·have hfn : Instr.findNow (.int j) (.int j key) (me :: ms') i = Instr.findNow (.int j) (.int j key) ms' (i + 1) := by
      have : (key == a) = false := by simp; exact fun h => hak h.symm
      simp [Instr.findNow, Instr.sameNow, hk, this]
     rcases ih ms' (i + 1) h3 with ⟨q0, q1, q2⟩ | ⟨y, n, me', q0, q1, q2, q3, q4, q5⟩
     ·exact .inl ⟨by simp [Da, hak, q0], by simp [AR, hak, q1], by rw [hfn]; exact q2⟩
     ·exact .inr ⟨y, n + 1, me', by simp [Da, hak, q0], by simp [AR, hak, q1], by rw [hfn, q2, show i + 1 + n = i + (n + 1) from by omega], by simpa using q3, q4, q5⟩
  rcases gen es ms 0 h with ⟨q0, q1, q2⟩ | ⟨x, n, me, q0, q1, q2, q3, q4, q5⟩
  ·exact .inl ⟨q0, q1, hfk _ q2⟩
  ·rw [Nat.zero_add] at q2
   exact .inr ⟨x, n, me, q0, q1, hfk _ q2, q3, q4, q5⟩
theorem PN {w : World} {F : Nat → Prop} : ∀ (t : Ty) {n : List Bool}, kinds? t = some n → ∀ (d : t.den) (cs : List Value), Dat w F t d cs ↔ cs = CL t d
 | .unit, _, _, d, cs => Iff.rfl
 | .prod (.int k) r, n, h, d, cs => by
  simp only [kinds?, Option.map_eq_some_iff] at h
  obtain ⟨n', h', rfl⟩ := h
  constructor
  ·rintro ⟨c1, c2, rfl, h1, h2⟩
   rw [(PN r h' d.2 c2).1 h2]
   have h1 : c1 = [.int k d.1] := h1
   rw [h1]; rfl
  ·rintro rfl
   exact ⟨[.int k d.1], CL r d.2, rfl, rfl, (PN r h' d.2 _).2 rfl⟩
 | .prod .bool r, n, h, d, cs => by
  simp only [kinds?, Option.map_eq_some_iff] at h
  obtain ⟨n', h', rfl⟩ := h
  constructor
  ·rintro ⟨c1, c2, rfl, h1, h2⟩
   rw [(PN r h' d.2 c2).1 h2]
   have h1 : c1 = [.bool d.1] := h1
   rw [h1]; rfl
  ·rintro rfl
   exact ⟨[.bool d.1], CL r d.2, rfl, rfl, (PN r h' d.2 _).2 rfl⟩
 | .prod .unit _, _, h, _, _ => by simp [kinds?] at h
 | .prod (.slice _) _, _, h, _, _ => by simp [kinds?] at h
 | .prod (.prod _ _) _, _, h, _, _ => by simp [kinds?] at h
 | .prod (.arr _ _) _, _, h, _, _ => by simp [kinds?] at h
 | .bool, _, h, _, _ => by simp [kinds?] at h
 | .int _, _, h, _, _ => by simp [kinds?] at h
 | .slice _, _, h, _, _ => by simp [kinds?] at h
 | .arr _ _, _, h, _, _ => by simp [kinds?] at h
theorem SS : ∀ (t : Ty) {n : List Bool}, kinds? t = some n → ∀ (d d' : t.den), Bw n (BE t d) (BE t d') = some (@decide (d = d') (decDen t d d'))
 | .unit, n, h, d, d' => by
  simp only [kinds?, Option.some.injEq] at h
  subst h
  cases d; cases d'
  simp [BE, Bw]
 | .prod (.int k) r, n, h, d, d' => by
  simp only [kinds?, Option.map_eq_some_iff] at h
  obtain ⟨n', h', rfl⟩ := h
  obtain ⟨a, x⟩ := d
  obtain ⟨b, y⟩ := d'
  have := SS r h' x y
  simp only [BE, List.singleton_append, Bw, decide_true, this, E7]
  congr 1
  by_cases h1 : a = b
  ·subst h1
   by_cases h2 : x = y
   ·subst h2; simp
   ·simp [h2]
  ·simp [h1]
 | .prod .bool r, n, h, d, d' => by
  simp only [kinds?, Option.map_eq_some_iff] at h
  obtain ⟨n', h', rfl⟩ := h
  obtain ⟨a, x⟩ := d
  obtain ⟨b, y⟩ := d'
  have := SS r h' x y
  simp only [BE, List.singleton_append, Bw, this]
  congr 1
  by_cases h1 : a = b
  ·subst h1
   by_cases h2 : x = y
   ·subst h2; simp
   ·simp [h2]
  ·simp [h1]
 | .prod .unit _, _, h, _, _ => by simp [kinds?] at h
 | .prod (.slice _) _, _, h, _, _ => by simp [kinds?] at h
 | .prod (.prod _ _) _, _, h, _, _ => by simp [kinds?] at h
 | .prod (.arr _ _) _, _, h, _, _ => by simp [kinds?] at h
 | .bool, _, h, _, _ => by simp [kinds?] at h
 | .int _, _, h, _, _ => by simp [kinds?] at h
 | .slice _, _, h, _, _ => by simp [kinds?] at h
 | .arr _ _, _, h, _, _ => by simp [kinds?] at h
theorem NK : ∀ (t : Ty) {n : List Bool}, kinds? t = some n → ∀ (d : t.den), ∀ v ∈ CL t d, (∃ k i, v = .int k i) ∨ ∃ b, v = .bool b
 | .unit, _, _, d, v, hv => by simp [CL] at hv
 | .prod (.int k) r, n, h, d, v, hv => by
  simp only [kinds?, Option.map_eq_some_iff] at h
  obtain ⟨n', h', rfl⟩ := h
  simp only [CL, List.singleton_append, List.mem_cons] at hv
  rcases hv with rfl | hv
  ·exact .inl ⟨_, _, rfl⟩
  ·exact NK r h' d.2 v hv
 | .prod .bool r, n, h, d, v, hv => by
  simp only [kinds?, Option.map_eq_some_iff] at h
  obtain ⟨n', h', rfl⟩ := h
  simp only [CL, List.singleton_append, List.mem_cons] at hv
  rcases hv with rfl | hv
  ·exact .inr ⟨_, rfl⟩
  ·exact NK r h' d.2 v hv
 | .prod .unit _, _, h, _, _, _ => by simp [kinds?] at h
 | .prod (.slice _) _, _, h, _, _, _ => by simp [kinds?] at h
 | .prod (.prod _ _) _, _, h, _, _, _ => by simp [kinds?] at h
 | .prod (.arr _ _) _, _, h, _, _, _ => by simp [kinds?] at h
 | .bool, _, h, _, _, _ => by simp [kinds?] at h
 | .int _, _, h, _, _, _ => by simp [kinds?] at h
 | .slice _, _, h, _, _, _ => by simp [kinds?] at h
 | .arr _ _, _, h, _, _, _ => by simp [kinds?] at h
theorem Ia {t : Ty} {n : List Bool} (h : kinds? t = some n) (d : t.den) : Bt t d = .agg (CL t d).toArray ∧ t.isAgg = true := by
 cases t <;> first | exact ⟨rfl, rfl⟩ | (simp [kinds?] at h)
end
end Go.Pev
end
section
namespace Go.Pev
open Go.RowKit
section
variable {P : Program}
theorem NL : ∀ (t : Ty) {n : List Bool}, kinds? t = some n → ∀ (d : t.den), (CL t d).length = n.length
 | .unit, n, h, d => by simp only [kinds?, Option.some.injEq] at h; subst h; rfl
 | .prod (.int k) r, n, h, d => by
  simp only [kinds?, Option.map_eq_some_iff] at h
  obtain ⟨n', h', rfl⟩ := h
  simp [CL, NL r h' d.2]
 | .prod .bool r, n, h, d => by
  simp only [kinds?, Option.map_eq_some_iff] at h
  obtain ⟨n', h', rfl⟩ := h
  simp [CL, NL r h' d.2]
 | .prod .unit _, _, h, _ => by simp [kinds?] at h
 | .prod (.slice _) _, _, h, _ => by simp [kinds?] at h
 | .prod (.prod _ _) _, _, h, _ => by simp [kinds?] at h
 | .prod (.arr _ _) _, _, h, _ => by simp [kinds?] at h
 | .bool, _, h, _ => by simp [kinds?] at h
 | .int _, _, h, _ => by simp [kinds?] at h
 | .slice _, _, h, _ => by simp [kinds?] at h
 | .arr _ _, _, h, _ => by simp [kinds?] at h
theorem AHl {w : World} {T : TypeId} (h : OI P T = true) (b : Bool) (n : Nat) {v : Value} : (Instr.checkKey b (n + 1) T v).run P w = .ok () w := by
 rcases Cy h with ⟨k, hk, _⟩ | ⟨hk, _⟩
 ·simp [Instr.checkKey, run_underlying hk]
 ·simp [Instr.checkKey, run_underlying hk]
theorem AHm {w : World} (b : Bool) (d : Nat) (xs : Array Value) : ∀ (fs : List Field) (i : Nat), D1 P fs i = true → i + fs.length ≤ xs.size →
  (forIn fs PUnit.unit fun (f : Field) (_ : PUnit) => ((if f.name ≠ "_" then (part f.type xs f.offset >>= fun v => Instr.checkKey b (d + 1) f.type v >>= fun _ => pure (ForInStep.yield PUnit.unit)) else pure (ForInStep.yield PUnit.unit)) : Sem (ForInStep PUnit))).run P w = .ok PUnit.unit w := by
 intro fs
 induction fs with
 | nil => intro i _ _; simp [Sem.run_pure]
 | cons f fs ih =>
  intro i hok hl
  simp only [D1, Bool.and_eq_true, bne_iff_ne, decide_eq_true_eq] at hok
  obtain ⟨hn, ho, hsc, hok⟩ := hok
  rw [List.length_cons] at hl
  have hag : F4 P f.type = some false := by
   rcases Cy hsc with ⟨k, hk, _⟩ | ⟨hk, _⟩ <;> simp [F4, hk]
  have hlt : i < xs.size := by omega
  have p1 : (part f.type xs f.offset).run P w = .ok xs[i] w := by
   rw [ho]; simp [part, ED hag, hlt]
  have h3 := ih (i + 1) hok (by omega)
  simp only [List.forIn_cons, Sem.run_bind, hn, ne_eq, not_false_eq_true, if_true, p1, Result.andThen_ok, AHl hsc, Sem.run_pure]
  exact h3
theorem AP0 {kt : TypeId} {t : Ty} {n : List Bool} (hs : structEq P kt = some n) (hk : kinds? t = some n) : AWP P kt t := by
 obtain ⟨fs, hu, hgt, hst, hok, hn⟩ := MW hs
 have hfo : P.fieldsOf kt = fs := by simp [Program.fieldsOf, hu]
 have hrep : ∀ (w : World) (F : Nat → Prop) (d : t.den) (v : Value), Bd w F t d v ↔ v = Bt t d := by
  intro w F d v
  obtain ⟨e1, e2⟩ := Ia hk d
  unfold Bd
  rw [if_pos e2, e1]
  constructor
  ·rintro ⟨vs, rfl, h⟩
   have := (PN t hk d _).1 h
   rw [← this]
  ·rintro rfl
   exact ⟨_, rfl, (PN t hk d _).2 (by simp)⟩
 have hlen : ∀ d : t.den, (CL t d).length = fs.size := by
  intro d
  rw [NL t hk d, hn, List.length_map, Array.length_toList]
 refine ⟨hrep, fun w b d => ?_, fun w d => ?_, fun w F b key es ms h => ?_⟩
 ·rw [(Ia hk d).1]
  have := fun m => AHm (P := P) (w := w) b m (CL t d).toArray fs.toList 0 hok (by rw [List.size_toArray, hlen, Array.length_toList]; omega)
  have gen : ∀ m, (Instr.checkKey b (m + 1 + 1) kt (.agg (CL t d).toArray)).run P w = .ok () w := by
   intro m
   rw [Instr.checkKey]
   simp only [Sem.run_bind, run_underlying hu, Result.andThen_ok]
   rw [← Array.forIn_toList, this m]
   rfl
  exact gen 9998
 ·rw [(Ia hk d).1]
  have gen : ∀ m, Instr.sameBits (m + 1) (.agg (CL t d).toArray) (.agg (CL t d).toArray) = true := by
   intro m
   have hz : ∀ l : List Value, (∀ v ∈ l, (∃ k i, v = .int k i) ∨ ∃ b, v = .bool b) → ((l.zip l).all fun p => Instr.sameBits m p.1 p.2) = true := by
    intro l
    induction l with
    | nil => intro _; rfl
    | cons v l ih =>
     intro h
     rw [List.zip_cons_cons, List.all_cons, ih (fun x hx => h x (by simp [hx]))]
     rcases h v (by simp) with ⟨k, i, rfl⟩ | ⟨b, rfl⟩
     ·cases m <;> simp [Instr.sameBits]
     ·cases m <;> simp [Instr.sameBits]
   simp only [Instr.sameBits, beq_self_eq_true, Bool.true_and]
   exact hz _ (NK t hk d)
  unfold Instr.keyThatStays
  rw [gen 9999]
  rfl
 ·have heq : ∀ d d' : t.den, (Op.equal kt (Bt t d) (Bt t d')).run P w = .ok (@decide (d = d') (decDen t d d')) w := by
   intro d d'
   rw [(Ia hk d).1, (Ia hk d').1]
   unfold Op.equal Op.maxDepth
   rw [run_equalIn_agg w 9999 kt _ _ (by rw [hfo]; exact hu) hst, hfo]
   have r : ∀ x : t.den, Ae w F (fun _ => none) [] (BE t x) ((CL t x).toArray.toList.drop 0) := fun x => HL t ((PN t hk x _).2 (by simp))
   exact PL 9998 _ _ fs.toList 0 (BE t d) (BE t d') _ hok (r d) (r d') (by rw [← hn]; exact SS t hk d d')
  have gen : ∀ (es : List (t.den × b.den)) (ms : List MapEntry) (i : Nat), Hc w F t b es ms →
    (Da es key = none ∧ AR es key = none ∧ (Instr.findAsking kt (Bt t key) ms i).run P w = .ok none w) ∨
    (∃ x n me, Da es key = some n ∧ AR es key = some x ∧ (Instr.findAsking kt (Bt t key) ms i).run P w = .ok (some (i + n, me.val)) w ∧ ms[n]? = some me ∧ Bd w F b x me.val ∧ me.key = Bt t key) := by
   intro es
   induction es with
   | nil => rintro ms i rfl; exact .inl ⟨rfl, rfl, by simp [Instr.findAsking]⟩
   | cons e es ih =>
    rintro ms i ⟨me, ms', rfl, ⟨h1, h2⟩, h3⟩
    obtain ⟨a, x⟩ := e
    have hkk := (hrep w F a _).1 h1
    simp only at h2
    have hq := heq key a
    by_cases hak : a = key
    ·subst hak
     rw [decide_eq_true rfl] at hq
     refine .inr ⟨x, 0, me, by simp [Da], by simp [AR], ?_, rfl, h2, hkk⟩
     simp [Instr.findAsking, hkk, hq]
    ·rw [decide_eq_false (fun h => hak h.symm)] at hq
     have hfn : (Instr.findAsking kt (Bt t key) (me :: ms') i).run P w = (Instr.findAsking kt (Bt t key) ms' (i + 1)).run P w := by
      simp [Instr.findAsking, hkk, hq]
     rcases ih ms' (i + 1) h3 with ⟨q0, q1, q2⟩ | ⟨y, n, me', q0, q1, q2, q3, q4, q5⟩
     ·exact .inl ⟨by simp [Da, hak, q0], by simp [AR, hak, q1], by rw [hfn]; exact q2⟩
     ·exact .inr ⟨y, n + 1, me', by simp [Da, hak, q0], by simp [AR, hak, q1], by rw [hfn, q2, show i + 1 + n = i + (n + 1) from by omega], by simpa using q3, q4, q5⟩
  have hfk : ∀ r, (Instr.findAsking kt (Bt t key) ms).run P w = .ok r w → (ms = [] → r = none) → (Instr.findKey kt (Bt t key) ms).run P w = .ok r w := by
   intro r hr' hnil
   cases ms with
   | nil => simp [Instr.findKey, run_underlying hu, Instr.findNow, hnil rfl]
   | cons me ms =>
    simp only [Instr.findKey, Sem.run_bind, run_underlying hu, Result.andThen_ok, Instr.findNow, Instr.sameNow]
    exact hr'
  rcases gen es ms 0 h with ⟨q0, q1, q2⟩ | ⟨x, n, me, q0, q1, q2, q3, q4, q5⟩
  ·exact .inl ⟨q0, q1, hfk _ q2 (fun _ => rfl)⟩
  ·rw [Nat.zero_add] at q2
   exact .inr ⟨x, n, me, q0, q1, hfk _ q2 (fun e => by subst e; simp at q3), q3, q4, q5⟩
theorem ABq {T : TypeId} {t : Ty} (h : Og P T = some t) : ∃ e k, P.underlying T = some (.array 2 e) ∧ P.underlying e = some (.int k) ∧ BJ P e = some 1 ∧ t = .prod (.int k) (.prod (.int k) .unit) := by
 unfold Og at h
 split at h
 ·rename_i n e hu
  split at h
  ·rename_i k hn he hs
   rw [decide_eq_true_eq] at hn hs
   subst hn
   cases h
   exact ⟨e, k, hu, he, hs, rfl⟩
  ·cases h
 ·cases h
theorem AYe {kt : TypeId} {t : Ty} (hp : Og P kt = some t) : AWP P kt t := by
 obtain ⟨e, j, hu, he, hs, rfl⟩ := ABq hp
 obtain ⟨i0, hi0, hi1⟩ := BQ hs
 have hk : kinds? (.prod (.int j) (.prod (.int j) .unit)) = some [true, true] := rfl
 have hag : F4 P e = some false := by simp [F4, he]
 have hsz : ∀ w, (sizeOf e).run P w = .ok 1 w := fun w => by rw [run_sizeOf hi0, hi1]
 have hkv : ∀ d : (Ty.prod (.int j) (.prod (.int j) .unit)).den, Bt (.prod (.int j) (.prod (.int j) .unit)) d = .agg #[.int j d.1, .int j d.2.1] := fun d => rfl
 have hrep : ∀ (w : World) (F : Nat → Prop) (d : (Ty.prod (.int j) (.prod (.int j) .unit)).den) (v : Value), Bd w F (.prod (.int j) (.prod (.int j) .unit)) d v ↔ v = Bt (.prod (.int j) (.prod (.int j) .unit)) d := by
  intro w F d v
  obtain ⟨e1, e2⟩ := Ia hk d
  unfold Bd
  rw [if_pos e2, e1]
  constructor
  ·rintro ⟨vs, rfl, h⟩
   have := (PN _ hk d _).1 h
   rw [← this]
  ·rintro rfl
   exact ⟨_, rfl, (PN _ hk d _).2 (by simp)⟩
 have hpart : ∀ (w : World) (a b : Value), (part e #[a, b] 0).run P w = .ok a w ∧ (part e #[a, b] 1).run P w = .ok b w := fun w a b => by
  constructor <;> simp [part, ED hag]
 have hck1 : ∀ (w : World) (b : Bool) (n : Nat) (d : Int), (Instr.checkKey b (n + 1) e (.int j d)).run P w = .ok () w := fun w b n d => by simp [Instr.checkKey, run_underlying he]
 refine ⟨hrep, fun w b d => ?_, fun w d => ?_, fun w F b key es ms h => ?_⟩
 ·rw [hkv]
  have gen : ∀ m, (Instr.checkKey b (m + 1 + 1) kt (.agg #[.int j d.1, .int j d.2.1])).run P w = .ok () w := by
   intro m
   rw [Instr.checkKey]
   simp only [Sem.run_bind, run_underlying hu, Result.andThen_ok]
   simp [Std.Legacy.Range.forIn_eq_forIn_range', Std.Legacy.Range.size, List.range', hsz, (hpart w _ _).1, (hpart w _ _).2, hck1]
  exact gen 9998
 ·rw [hkv]
  have gen : ∀ m, Instr.sameBits (m + 1) (.agg #[.int j d.1, .int j d.2.1]) (.agg #[.int j d.1, .int j d.2.1]) = true := by
   intro m
   cases m <;> simp [Instr.sameBits]
  unfold Instr.keyThatStays
  rw [gen 9999]
  rfl
 ·have heq : ∀ d d' : (Ty.prod (.int j) (.prod (.int j) .unit)).den, (Op.equal kt (Bt (.prod (.int j) (.prod (.int j) .unit)) d) (Bt (.prod (.int j) (.prod (.int j) .unit)) d')).run P w = .ok (@decide (d = d') (decDen (.prod (.int j) (.prod (.int j) .unit)) d d')) w := by
   intro d d'
   rw [hkv, hkv]
   have hone : ∀ (n : Nat) (a b : Int), (Op.equalIn (n + 1) e (.int j a) (.int j b)).run P w = .ok (a == b) w := fun n a b => by simp [Op.equalIn, run_underlying he]
   have gen : ∀ n, (Op.equalIn (n + 1 + 1) kt (.agg #[.int j d.1, .int j d.2.1]) (.agg #[.int j d'.1, .int j d'.2.1])).run P w = .ok ((d.1 == d'.1) && (d.2.1 == d'.2.1)) w := by
    intro n
    rw [Op.equalIn]
    simp only [Sem.run_bind, run_underlying hu, Result.andThen_ok, hsz]
    simp only [Std.Legacy.Range.forIn_eq_forIn_range', Std.Legacy.Range.size, List.range', Nat.zero_mul, Nat.one_mul]
    by_cases h1 : d.1 = d'.1
    ·by_cases h2 : d.2.1 = d'.2.1 <;> simp [hone, (hpart w _ _).1, (hpart w _ _).2, h1, h2]
    ·simp [hone, (hpart w _ _).1, (hpart w _ _).2, h1]
   unfold Op.equal
   have := gen 9998
   rw [show Op.maxDepth = 9998 + 1 + 1 from rfl, this]
   congr 1
   rw [Bool.eq_iff_iff, Bool.and_eq_true, beq_iff_eq, beq_iff_eq]
   rw [decide_eq_true_iff]
   obtain ⟨a, b, ⟨⟩⟩ := d
   obtain ⟨a', b', ⟨⟩⟩ := d'
   constructor
   ·rintro ⟨h1, h2⟩
    have h1 : a = a' := h1
    have h2 : b = b' := h2
    rw [h1, h2]
   ·intro h
    cases h
    exact ⟨rfl, rfl⟩
  have gen : ∀ (es : List ((Ty.prod (.int j) (.prod (.int j) .unit)).den × b.den)) (ms : List MapEntry) (i : Nat), Hc w F (.prod (.int j) (.prod (.int j) .unit)) b es ms →
    (@Da _ _ (decDen _) es key = none ∧ @AR _ _ (decDen _) es key = none ∧ (Instr.findAsking kt (Bt (.prod (.int j) (.prod (.int j) .unit)) key) ms i).run P w = .ok none w) ∨
    (∃ x n me, @Da _ _ (decDen _) es key = some n ∧ @AR _ _ (decDen _) es key = some x ∧ (Instr.findAsking kt (Bt (.prod (.int j) (.prod (.int j) .unit)) key) ms i).run P w = .ok (some (i + n, me.val)) w ∧ ms[n]? = some me ∧ Bd w F b x me.val ∧ me.key = Bt (.prod (.int j) (.prod (.int j) .unit)) key) := by
   intro es
   induction es with
   | nil => rintro ms i rfl; exact .inl ⟨rfl, rfl, by simp [Instr.findAsking]⟩
   | cons e' es ih =>
    rintro ms i ⟨me, ms', rfl, ⟨h1, h2⟩, h3⟩
    obtain ⟨a, x⟩ := e'
    have hkk := (hrep w F a _).1 h1
    simp only at h2
    have hq := heq key a
    by_cases hak : a = key
    ·subst hak
     rw [decide_eq_true rfl] at hq
     refine .inr ⟨x, 0, me, by simp [Da], by simp [AR], ?_, rfl, h2, hkk⟩
     simp [Instr.findAsking, hkk, hq]
    ·rw [decide_eq_false (fun h => hak h.symm)] at hq
     have hfn : (Instr.findAsking kt (Bt (.prod (.int j) (.prod (.int j) .unit)) key) (me :: ms') i).run P w = (Instr.findAsking kt (Bt (.prod (.int j) (.prod (.int j) .unit)) key) ms' (i + 1)).run P w := by
      simp [Instr.findAsking, hkk, hq]
     rcases ih ms' (i + 1) h3 with ⟨q0, q1, q2⟩ | ⟨y, n, me', q0, q1, q2, q3, q4, q5⟩
     ·exact .inl ⟨by simp [Da, hak, q0], by simp [AR, hak, q1], by rw [hfn]; exact q2⟩
     ·exact .inr ⟨y, n + 1, me', by simp [Da, hak, q0], by simp [AR, hak, q1], by rw [hfn, q2, show i + 1 + n = i + (n + 1) from by omega], by simpa using q3, q4, q5⟩
  have hfk : ∀ r, (Instr.findAsking kt (Bt (.prod (.int j) (.prod (.int j) .unit)) key) ms).run P w = .ok r w → (ms = [] → r = none) → (Instr.findKey kt (Bt (.prod (.int j) (.prod (.int j) .unit)) key) ms).run P w = .ok r w := by
   intro r hr' hnil
   cases ms with
   | nil => simp [Instr.findKey, run_underlying hu, Instr.findNow, hnil rfl]
   | cons me ms =>
    simp only [Instr.findKey, Sem.run_bind, run_underlying hu, Result.andThen_ok, Instr.findNow, Instr.sameNow]
    exact hr'
  rcases gen es ms 0 h with ⟨q0, q1, q2⟩ | ⟨x, n, me, q0, q1, q2, q3, q4, q5⟩
  ·exact .inl ⟨q0, q1, hfk _ q2 (fun _ => rfl)⟩
  ·rw [Nat.zero_add] at q2
   exact .inr ⟨x, n, me, q0, q1, hfk _ q2 (fun e => by subst e; simp at q3), q3, q4, q5⟩
theorem Oy {kt : TypeId} {t : Ty} (h : T4 P kt = some t) : AWP P kt t := by
 unfold T4 at h
 split at h
 ·rename_i t' hi
  cases h
  unfold AYh at hi
  split at hi
  ·rename_i k hu
   cases hi
   exact Aay hu
  ·cases hi
 ·split at h
  ·rename_i n t' hs ht
   split at h
   ·rename_i hd
    cases h
    exact AP0 hs (of_decide_eq_true hd)
   ·cases h
  ·exact AYe h
end
end Go.Pev
end
section
namespace Go.Pev
open Go.RowKit
section
variable {P : Program} {E : Env}
theorem AQ6 (hE : ∀ g, AQ P g (E.spec g)) (f : Operand) (args : Array Operand) (ts : Array TypeId) : Claim P E (.call { callee := .value f, args := args, argTypes := ts }) := by
 intro R ty ρ H fz slot k r h
 simp only [evalOp] at h
 split at h
 ·rename_i g caps hf
  obtain ⟨v, e, h1, h2, h3, h4⟩ := hE g R _ H fz slot k r h
  refine ⟨v, e, h1, fun R' k' => by simp only [evalOp, hf]; exact h2 R' k', ?_⟩
  intro w F m a o next Q hop hty hi hr hn
  have hrf := hr f
  rw [hf] at hrf
  unfold Rep at hrf
  obtain ⟨cs, e1, e2⟩ := hrf
  have hargs : Ae w F m H (args.toList.map ρ ++ caps) ((args.map a.eval ++ cs).toList) := by
   rw [Array.toList_append, Array.toList_map]
   exact F5 (DU (by simp) fun i c v hc hv => by
    rw [List.getElem?_map] at hc hv
    cases hx : args.toList[i]? with
    | none => rw [hx] at hc; cases hc
    | some x =>
     rw [hx] at hc hv
     cases hc; cases hv
     exact hr x) e2
  have hcall := h4 w F m _ hi hargs
  rw [Array.toArray_toList] at hcall
  unfold Oper.wp
  have hrun : (execOp a.eval o).run P w = .ok (.enter g (args.map a.eval ++ cs)) w := by
   simp [execOp, hop, resolve, e1, Deferred.ofValue, invoke, h3 _ w]
  rw [hrun]
  exact hcall.mono fun en w' ⟨u, hen, F', m', hg, hrep⟩ => by
   subst hen
   exact hn u w' F' m' hg hrep
 ·rename_i g caps hf
  obtain ⟨v, e, h1, h2, h3, h4⟩ := hE g R _ H fz slot k r h
  refine ⟨v, e, h1, fun R' k' => by simp only [evalOp, hf]; exact h2 R' k', ?_⟩
  intro w F m a o next Q hop hty hi hr hn
  have hrf := hr f
  rw [hf] at hrf
  unfold Rep at hrf
  obtain ⟨cs, e1, e2⟩ := hrf
  have hargs : Ae w F m H (caps ++ args.toList.map ρ) ((cs ++ args.map a.eval).toList) := by
   rw [Array.toList_append, Array.toList_map]
   exact F5 e2 (DU (by simp) fun i c v hc hv => by
    rw [List.getElem?_map] at hc hv
    cases hx : args.toList[i]? with
    | none => rw [hx] at hc; cases hc
    | some x =>
     rw [hx] at hc hv
     cases hc; cases hv
     exact hr x)
  have hcall := h4 w F m _ hi hargs
  rw [Array.toArray_toList] at hcall
  unfold Oper.wp
  have hrun : (execOp a.eval o).run P w = .ok (.enter g (cs ++ args.map a.eval)) w := by
   simp [execOp, hop, resolve, e1, Deferred.ofValue, invoke, h3 _ w]
  rw [hrun]
  exact hcall.mono fun en w' ⟨u, hen, F', m', hg, hrep⟩ => by
   subst hen
   exact hn u w' F' m' hg hrep
 ·cases h
theorem ANJ {T : TypeId} (h : ARg P T = true) : P.underlying T = some .string := by
 unfold ARg at h
 split at h
 ·assumption
 ·cases h
theorem AHn {T : TypeId} (h : WB P T = true) : ∃ e, P.underlying T = some (.slice e) ∧ P.underlying e = some (.int .u8) := by
 unfold WB at h
 split at h
 ·rename_i e hu
  split at h
  ·rename_i hu'; exact ⟨e, hu, hu'⟩
  ·cases h
 ·cases h
theorem ANj {w : World} {F : Nat → Prop} : ∀ {xs : List Int} {row : List Value}, rows (Dat w F (.int .u8)) xs row → row = xs.map (Value.int .u8) := by
 intro xs
 induction xs with
 | nil => rintro row rfl; rfl
 | cons x xs ih =>
  rintro row ⟨c1, c2, rfl, h1, h2⟩
  rw [ih h2]
  have h1 : c1 = [.int .u8 x] := by simpa [Dat] using h1
  rw [h1]; rfl
theorem AOF : ∀ (xs : List Int) (s : ByteArray), bytesOf (xs.foldl (fun r n => r.push (UInt8.ofNat n.toNat)) s) = bytesOf s ++ AAD xs := by
 intro xs
 induction xs with
 | nil => intro s; simp [AAD]
 | cons x xs ih =>
  intro s
  rw [List.foldl_cons, ih]
  simp [bytesOf, AAD, ByteArray.push]
theorem AZZ {S T : TypeId} {x : Operand} {w : World} {F : Nat → Prop} {m : Mp} {H : List Ob} {fz : List Bool} {v : AV} {xs : List Int} {fr : List Nat} {ρc : Operand → Value} {o : Oper} (hop : o.op = .convert S T x)
  (hs : WB P S = true) (hd : ARg P T = true) (hi : HI w F m H fz) (hx : FP H (.slice (.int .u8)) v = some (xs, fr)) (hr : Rep w F m H v (ρc x)) :
  ∃ u, (execOp ρc o).run P w = .ok (.value u) w ∧ Rep w F m H (.str (AAD xs)) u := by
 obtain ⟨e, h1, h2⟩ := AHn hs
 have h3 := ANJ hd
 obtain ⟨a, cap, e1, hle, hne, news, hrows, hcell⟩ := HV hi hx hr
 cases a with
 | none =>
  have hxs : xs = [] := by
   cases xs with
   | nil => rfl
   | cons a b => exact absurd (hne (by simp)) (by simp)
  subst hxs
  refine ⟨.string ByteArray.empty, ?_, ?_⟩
  ·simp [execOp, hop, e1, run_convert_bytes_string w S T e none _ _ h1 h2 h3, Conv.bytesToString]
  ·unfold Rep; exact ⟨_, rfl, rfl⟩
 | some ad =>
  have hn := ANj hrows
  subst hn
  have hl : (Go.loadCells ad xs.length).run P w = .ok (xs.map (Value.int .u8)).toArray w := by
   have := run_loadCells_list (P := P) w ad (xs.map (Value.int .u8)) (fun j v hj => hcell ad rfl j v hj)
   simpa using this
  refine ⟨.string (xs.foldl (fun r n => r.push (UInt8.ofNat n.toNat)) ByteArray.empty), ?_, ?_⟩
  ·simp [execOp, hop, e1, run_convert_bytes_string w S T e (some ad) _ _ h1 h2 h3, run_bytesToString w ad _ cap xs hl]
  ·unfold Rep; exact ⟨_, rfl, (AOF _ _).trans (List.nil_append _)⟩
theorem ACG (S T : TypeId) (x : Operand) : Claim P E (.convert S T x) := by
 intro R ty ρ H fz slot k r h
 simp only [evalOp] at h
 split at h
 ·rename_i j' n j hx hs hk
  refine ⟨_, _, h, fun R' k' => by simp only [evalOp, hx, hs, hk], AY fun w F m ρc o hop hty hi hr => ⟨.int j (j.wrap n), ?_, As _ _⟩⟩
  have e1 := BA (hx ▸ hr x)
  obtain ⟨d, hd⟩ := Option.isSome_iff_exists.1 hs
  simp [execOp, hop, e1, convert, run_underlying hd, run_underlying (T3 hk), Conv.intToInt]
 ·rename_i v b1 b2 hne
  split at h
  ·rename_i hs hd
   split at h
   ·rename_i xs fr hx
    refine ⟨_, _, h, fun R' k' => ?_, AY fun w F m ρc o hop hty hi hr => AZZ hop hs hd hi hx (hr x)⟩
    simp only [evalOp]
    simp only [hs, hd, hx]
   ·cases h
  ·cases h
theorem AXN {w : World} {F : Nat → Prop} {k : IntKind} {n : Int} {v : Value} (h : Bd w F (.int k) n v) : v = .int k n := by
 unfold Bd at h
 have h : Dat w F (.int k) n [v] := h
 simpa [Dat] using h
theorem CR {w : World} {r : Nat} {ms : Array MapEntry} {clock : Nat} (h : w.heap[r]? = some (.map ms clock)) : (getObj r).run P w = .ok (.map ms clock) w := by
 simp [getObj, Sem.run, h]
theorem AHh (T : TypeId) (mm x : Operand) (ok : Bool) : Claim P E (.lookup T mm x ok) := by
 intro R ty ρ H fz slot k r h
 simp only [evalOp] at h
 split at h
 ·rename_i kt vt id hu hm
  split at h
  ·rename_i ka b es ho
   split at h
   ·rename_i b' cs' hkt hz
    split at h
    ·rename_i key fr hb hx
     simp only [decide_eq_true_eq] at hb
     subst hb
     have hkt' := hkt
     simp only [decide_eq_true_eq] at hkt'
     have hK := Oy hkt'
     obtain ⟨hty', hcs', i, z, hi0, hz0, hok, hsz, hza⟩ := B2 hz
     subst hcs'
     have main : ∀ (w : World) (F : Nat → Prop) (m : Mp) (ρc : Operand → Value) (o : Oper), o.op = .lookup T mm x ok → HI w F m H fz → (∀ x, Rep w F m H (ρ x) (ρc x)) →
       ∃ u, (execOp ρc o).run P w = .ok (.value (if ok then .tuple #[u, .bool (AR (α := ka.den) es key).isSome] else u)) w ∧ Bd w F b' ((AR (α := ka.den) es key).getD b'.zero) u := by
      intro w F m ρc o hop hi hr
      have hrm := hr mm
      rw [hm] at hrm
      unfold Rep at hrm
      rw [ho] at hrm
      obtain ⟨bb, c, e1, e2⟩ := hrm
      obtain ⟨b2, c', ms, clock, e3, e4, e5, _⟩ := hi.obj id _ ho
      rw [e1] at e3; cases e3
      have hkv : ρc x = Bt ka key := (hK.rep _ _ _ _).1 (Fi hi hx (hr x))
      have hck := hK.check w ms.isEmpty key
      rcases hK.find w F _ key es ms.toList e5 with ⟨_, q1, q2⟩ | ⟨y, n, me, _, q1, q2, q3, q4, _⟩
      ·refine ⟨z, ?_, by rw [q1]; exact QP hok hza⟩
       rw [q1]
       simp only [execOp, hop, e2, hkv, Instr.lookup, Sem.run_bind, run_underlying hu, Result.andThen_ok, CR e4, hck, q2, Bx hi0 hz0, Sem.run_pure]
       cases ok <;> rfl
      ·refine ⟨me.val, ?_, by rw [q1]; exact q4⟩
       rw [q1]
       simp only [execOp, hop, e2, hkv, Instr.lookup, Sem.run_bind, run_underlying hu, Result.andThen_ok, CR e4, hck, q2, Sem.run_pure]
       cases ok <;> rfl
     split at h
     ·refine ⟨_, _, h, fun R' k' => by simp only [evalOp, hu, hm, ho, hkt, hz, decide_true, hx], AY fun w F m ρc o hop hty hi hr => ?_⟩
      obtain ⟨u, h1, h2⟩ := main w F m ρc o hop hi hr
      refine ⟨_, h1, ?_⟩
      unfold Rep
      refine ⟨_, rfl, ?_⟩
      unfold Ae
      refine ⟨u, _, rfl, by unfold Rep; exact h2, AAi (BR _)⟩
     ·refine ⟨_, _, h, fun R' k' => by simp only [evalOp, hu, hm, ho, hkt, hz, decide_true, hx], AY fun w F m ρc o hop hty hi hr => ?_⟩
      obtain ⟨u, h1, h2⟩ := main w F m ρc o hop hi hr
      exact ⟨u, h1, by unfold Rep; exact h2⟩
    ·cases h
   ·cases h
  ·cases h
 ·cases h
theorem Dt {w : World} {r : Nat} {ms ms' : Array MapEntry} {clock clock' : Nat} (h : w.heap[r]? = some (.map ms clock)) :
  (setObj r (.map ms' clock')).run P w = .ok () { w with heap := w.heap.setIfInBounds r (.map ms' clock') } := by
 simp [setObj, Sem.run, h]
theorem HU.push {ms : Array MapEntry} {clock : Nat} (h : HU ms clock) (key val : Value) : HU (ms.push { key := key, val := val, born := clock }) (clock + 1) := by
 obtain ⟨h1, h2⟩ := h
 refine ⟨by rw [Array.size_push, h1], fun i e he => ?_⟩
 rw [Array.getElem?_push] at he
 split at he
 ·cases he
  show clock = _
  omega
 ·exact h2 i e he
theorem HU.modify {ms : Array MapEntry} {clock : Nat} (h : HU ms clock) (n : Nat) {f : MapEntry → MapEntry} (hf : ∀ e, (f e).born = e.born) : HU (ms.modify n f) clock := by
 obtain ⟨h1, h2⟩ := h
 refine ⟨by rw [Array.size_modify, h1], fun i e he => ?_⟩
 rw [Array.getElem?_modify] at he
 split at he
 ·rw [Option.map_eq_some_iff] at he
  obtain ⟨e', he', rfl⟩ := he
  rw [hf]; exact h2 i e' he'
 ·exact h2 i e he
theorem VS (T : TypeId) (mm x y : Operand) : Claim P E (.mapUpdate T mm x y) := by
 intro R ty ρ H fz slot k r h
 simp only [evalOp] at h
 split at h
 ·rename_i kt vt id hu hm
  split at h
  ·rename_i ka b es ho
   split at h
   ·rename_i key fr0 val fr hkt hx hy
    refine ⟨_, _, h, fun R' k' => by simp only [evalOp, hu, hm, ho, hkt, hx, hy], Gg fun w F m ρc o hop hty hi hr => ?_⟩
    have hkt' := hkt
    simp only [decide_eq_true_eq] at hkt'
    have hK := Oy hkt'
    have hgf := Ax.freeze hi fr
    have hrm := hr mm
    rw [hm] at hrm
    unfold Rep at hrm
    rw [ho] at hrm
    obtain ⟨bb, c, e1, e2⟩ := hrm
    obtain ⟨b2, c', ms, clock, e3, e4, e5, e6⟩ := hgf.2.obj id _ ho
    rw [e1] at e3; cases e3
    have hkv : ρc x = Bt ka key := (hK.rep _ _ _ _).1 (Fi hi hx (hr x))
    have hvd := Fi hi hy (hr y)
    have hck := hK.check w false key
    have hst := hK.stays w key
    have hlt := BL e4
    have main : ∀ (ms' : Array MapEntry) (clock' : Nat), Hc w (Dc F m H fr) ka b (Ag (α := ka.den) es key val) ms'.toList → HU ms' clock' →
      Ax w (Dc F m H fr) m H (Ak fr fz) { w with heap := w.heap.setIfInBounds bb (.map ms' clock') } (Dc F m H fr) m (H.set id (.map ka b (Ag (α := ka.den) es key val))) (Ak fr fz) := by
     intro ms' clock' he hbo
     refine Ax.set hgf.2 (EI ho) e1 ho trivial rfl rfl rfl (by simp) (fun k hk => by simp [Ne.symm hk]) fun _ => ?_
     refine ⟨bb, c, ms', clock', e1, by simp [hlt], ?_, hbo⟩
     refine he.mono (fun a ha => ?_) (fun _ h => h)
     have : a.block ≠ bb := by rintro rfl; exact hgf.2.off id _ c (EI ho) e1 ha
     simp [World.cell?, Ne.symm this]
    obtain ⟨s1, s2⟩ := hK.store key val _ hvd e5
    rcases hK.find w _ _ key es ms.toList e5 with ⟨q1, _, q2⟩ | ⟨y', n, me, q1, _, q2, q3, q4, q5⟩
    ·have hg := main (ms.push { key := Bt ka key, val := ρc y, born := clock }) (clock + 1) (by rw [Array.toList_push]; exact s1 clock q1) (e6.push _ _)
     refine ⟨_, _, m, ?_, hgf.trans hg⟩
     simp only [execOp, hop, e2, hkv, Instr.mapUpdate, Sem.run_bind, run_underlying hu, Result.andThen_ok, CR e4, hck, q2, Dt e4, Sem.run_pure]
    ·have hg := main (ms.modify n fun e => { e with key := Bt ka key, val := ρc y }) clock (by rw [Array.toList_modify]; exact s2 n q1) (e6.modify _ fun _ => rfl)
     refine ⟨_, _, m, ?_, hgf.trans hg⟩
     have hgetn : ms[n]? = some me := by simpa using q3
     have hold : (((ms[n]?).map (·.key)).getD (Bt ka key)) = Bt ka key := by rw [hgetn]; exact q5
     simp only [execOp, hop, e2, hkv, Instr.mapUpdate, Sem.run_bind, run_underlying hu, Result.andThen_ok, CR e4, hck, q2, hold, hst, Dt e4, Sem.run_pure]
   ·cases h
  ·cases h
 ·cases h
theorem AHi (T : TypeId) (mm x y : Operand) : Claim P E (.insert T mm x y) := by
 intro R ty ρ H fz slot k r h
 simp only [evalOp] at h
 split at h
 ·rename_i kt vt id hu hm
  split at h
  ·rename_i ka b es ho
   split at h
   ·rename_i key fr0 val fr hkt hx hy
    refine ⟨_, _, h, fun R' k' => by simp only [evalOp, hu, hm, ho, hkt, hx, hy], Gg fun w F m ρc o hop hty hi hr => ?_⟩
    have hkt' := hkt
    simp only [decide_eq_true_eq] at hkt'
    have hK := Oy hkt'
    have hgf := Ax.freeze hi fr
    have hrm := hr mm
    rw [hm] at hrm
    unfold Rep at hrm
    rw [ho] at hrm
    obtain ⟨bb, c, e1, e2⟩ := hrm
    obtain ⟨b2, c', ms, clock, e3, e4, e5, e6⟩ := hgf.2.obj id _ ho
    rw [e1] at e3; cases e3
    have hkv : ρc x = Bt ka key := (hK.rep _ _ _ _).1 (Fi hi hx (hr x))
    have hvd := Fi hi hy (hr y)
    have hck := hK.check w false key
    have hst := hK.stays w key
    have hlt := BL e4
    have main : ∀ (ms' : Array MapEntry) (clock' : Nat), Hc w (Dc F m H fr) ka b (Ag (α := ka.den) es key val) ms'.toList → HU ms' clock' →
      Ax w (Dc F m H fr) m H (Ak fr fz) { w with heap := w.heap.setIfInBounds bb (.map ms' clock') } (Dc F m H fr) m (H.set id (.map ka b (Ag (α := ka.den) es key val))) (Ak fr fz) := by
     intro ms' clock' he hbo
     refine Ax.set hgf.2 (EI ho) e1 ho trivial rfl rfl rfl (by simp) (fun k hk => by simp [Ne.symm hk]) fun _ => ?_
     refine ⟨bb, c, ms', clock', e1, by simp [hlt], ?_, hbo⟩
     refine he.mono (fun a ha => ?_) (fun _ h => h)
     have : a.block ≠ bb := by rintro rfl; exact hgf.2.off id _ c (EI ho) e1 ha
     simp [World.cell?, Ne.symm this]
    obtain ⟨s1, s2⟩ := hK.store key val _ hvd e5
    rcases hK.find w _ _ key es ms.toList e5 with ⟨q1, _, q2⟩ | ⟨y', n, me, q1, _, q2, q3, q4, q5⟩
    ·have hg := main (ms.push { key := Bt ka key, val := ρc y, born := clock }) (clock + 1) (by rw [Array.toList_push]; exact s1 clock q1) (e6.push _ _)
     refine ⟨_, _, m, ?_, hgf.trans hg⟩
     simp only [execOp, hop, e2, hkv, Instr.mapUpdate, Sem.run_bind, run_underlying hu, Result.andThen_ok, CR e4, hck, q2, Dt e4, Sem.run_pure]
    ·have hg := main (ms.modify n fun e => { e with key := Bt ka key, val := ρc y }) clock (by rw [Array.toList_modify]; exact s2 n q1) (e6.modify _ fun _ => rfl)
     refine ⟨_, _, m, ?_, hgf.trans hg⟩
     have hgetn : ms[n]? = some me := by simpa using q3
     have hold : (((ms[n]?).map (·.key)).getD (Bt ka key)) = Bt ka key := by rw [hgetn]; exact q5
     simp only [execOp, hop, e2, hkv, Instr.mapUpdate, Sem.run_bind, run_underlying hu, Result.andThen_ok, CR e4, hck, q2, hold, hst, Dt e4, Sem.run_pure]
   ·cases h
  ·cases h
 ·cases h
theorem AGG {ms : Array MapEntry} {n : Nat} {me : MapEntry} (h : ms[n]? = some me) {f g : MapEntry → MapEntry} (he : f me = g me) : ms.modify n f = ms.modify n g := by
 apply Array.ext_getElem?
 intro i
 rw [Array.getElem?_modify, Array.getElem?_modify]
 split
 ·rename_i hi
  subst hi
  rw [h, Option.map_some, Option.map_some, he]
 ·rfl
theorem AAS (T : TypeId) (mm x : Operand) : Claim P E (.mapEntry T mm x) := by
 intro R ty ρ H fz slot k r h
 simp only [evalOp] at h
 split at h
 ·rename_i kt vt id hu hm
  split at h
  ·rename_i ka b es ho
   split at h
   ·rename_i b' cs' key fr hkt hz hx
    split at h
    ·rename_i hb
     simp only [decide_eq_true_eq] at hb
     subst hb
     refine ⟨_, _, h, fun R' k' => by simp only [evalOp, hu, hm, ho, hkt, hz, hx, decide_true], BB fun w F m ρc o hop hty hi hr => ?_⟩
     have hkt' := hkt
     simp only [decide_eq_true_eq] at hkt'
     have hK := Oy hkt'
     obtain ⟨hty', hcs', i, z, hi0, hz0, hok, hsz, hza⟩ := B2 hz
     subst hcs'
     have hrm := hr mm
     rw [hm] at hrm
     unfold Rep at hrm
     rw [ho] at hrm
     obtain ⟨bb, c, e1, e2⟩ := hrm
     obtain ⟨b2, c', ms, clock, e3, e4, e5, e6⟩ := hi.obj id _ ho
     rw [e1] at e3; cases e3
     have hkv : ρc x = Bt ka key := (hK.rep _ _ _ _).1 (Fi hi hx (hr x))
     have hck := hK.check w false key
     have hst := hK.stays w key
     have hlt := BL e4
     have main : ∀ (val : b'.den) (ms' : Array MapEntry) (clock' : Nat), Hc w F ka b' (Ag (α := ka.den) es key val) ms'.toList → HU ms' clock' →
       Ax w F m H fz { w with heap := w.heap.setIfInBounds bb (.map ms' clock') } F m (H.set id (.map ka b' (Ag (α := ka.den) es key val))) fz := by
      intro val ms' clock' he hbo
      refine Ax.set hi (EI ho) e1 ho trivial rfl rfl rfl (by simp) (fun k hk => by simp [Ne.symm hk]) fun _ => ?_
      refine ⟨bb, c, ms', clock', e1, by simp [hlt], ?_, hbo⟩
      refine he.mono (fun a ha => ?_) (fun _ h => h)
      have : a.block ≠ bb := by rintro rfl; exact hi.off id _ c (EI ho) e1 ha
      simp [World.cell?, Ne.symm this]
     have tup : ∀ (d : b'.den) (u : Value) (n : Nat), Bd w F b' d u → Rep w F m H (.tup [.data b' d, .data (.int .i64) (n : Int)]) (.tuple #[u, goInt (n : Int)]) := by
      intro d u n hd
      unfold Rep
      refine ⟨_, rfl, ?_⟩
      unfold Ae
      exact ⟨u, _, rfl, by unfold Rep; exact hd, AAi (As _ _)⟩
     have hlen := Z6 e5
     rcases hK.find w _ _ key es ms.toList e5 with ⟨q1, q0, q2⟩ | ⟨y', n, me, q1, q0, q2, q3, q4, q5⟩
     ·obtain ⟨s1, _⟩ := hK.store key b'.zero z (QP hok hza) e5
      have hg := main b'.zero (ms.push { key := Bt ka key, val := z, born := clock }) (clock + 1) (by rw [Array.toList_push]; exact s1 clock q1) (e6.push _ _)
      have hp : Mx (α := ka.den) es key = (clock : Int) := by
       unfold Mx
       rw [q1, e6.1]
       rw [Array.length_toList] at hlen
       rw [Option.getD_none, hlen]
      rw [q0, Option.getD_none, hp]
      refine ⟨_, _, F, m, ?_, hg, hg.1.rep hi (tup b'.zero z clock (QP hok hza))⟩
      simp only [execOp, hop, e2, hkv, Instr.mapEntry, Sem.run_bind, run_underlying hu, Result.andThen_ok, CR e4, hck, q2, Bx hi0 hz0, Dt e4, Sem.run_pure]
     ·obtain ⟨_, s2⟩ := hK.store key y' me.val q4 e5
      have hgetn : ms[n]? = some me := by simpa using q3
      have hmod : (ms.modify n fun e => { e with key := Bt ka key, val := me.val }) = ms.modify n fun e => { e with key := Bt ka key } := AGG hgetn rfl
      have hg := main y' (ms.modify n fun e => { e with key := Bt ka key, val := me.val }) clock (by rw [Array.toList_modify]; exact s2 n q1) (e6.modify _ fun _ => rfl)
      rw [hmod] at hg
      have hp : Mx (α := ka.den) es key = (n : Int) := by
       unfold Mx
       rw [q1, Option.getD_some]
      rw [q0, Option.getD_some, hp]
      have hold : (((ms[n]?).map (·.key)).getD (Bt ka key)) = Bt ka key := by rw [hgetn]; exact q5
      have hbn : (((ms[n]?).map fun x => (x.born : Int)).getD 0) = (n : Int) := by
       rw [hgetn]
       show (me.born : Int) = n
       rw [e6.2 n me hgetn]
      refine ⟨_, _, F, m, ?_, hg, hg.1.rep hi (tup y' me.val n q4)⟩
      simp only [execOp, hop, e2, hkv, Instr.mapEntry, Sem.run_bind, run_underlying hu, Result.andThen_ok, CR e4, hck, q2, hold, hst, hbn, Dt e4, Sem.run_pure]
    ·cases h
   ·cases h
  ·cases h
 ·cases h
theorem AZR {w : World} {F : Nat → Prop} {a b : Ty} (val : b.den) (v : Value) (hv : Bd w F b val v) : ∀ {es : List (a.den × b.den)} {ms : List MapEntry} (n : Nat), Hc w F a b es ms → Hc w F a b (es.modify n fun e => (e.1, val)) (ms.modify n fun e => { e with val := v }) := by
 intro es
 induction es with
 | nil => rintro ms n rfl; cases n <;> rfl
 | cons e es ih =>
  rintro ms n ⟨me, ms', rfl, ⟨h1, h2⟩, h3⟩
  cases n with
  | zero => exact ⟨_, ms', rfl, ⟨h1, hv⟩, h3⟩
  | succ n => exact ⟨me, _, rfl, ⟨h1, h2⟩, ih n h3⟩
theorem AVl {ms : Array MapEntry} {clock : Nat} (h : HU ms clock) {i : Nat} (hi : i < ms.size) : ms.findIdx? (fun e => (e.born : Int) == (i : Int)) = some i := by
 rw [Array.findIdx?_eq_some_iff_getElem]
 refine ⟨hi, ?_, fun j hj => ?_⟩
 ·have := h.2 i ms[i] (by simp [hi])
  simp [this]
 ·have := h.2 j ms[j] (by simp)
  simp [this]
  omega
theorem Sg (T : TypeId) (mm s y : Operand) : Claim P E (.entryStore T mm s y) := by
 intro R ty ρ H fz slot k r h
 simp only [evalOp] at h
 split at h
 ·rename_i id i0 hm hs
  split at h
  ·rename_i ka b es ho
   split at h
   ·rename_i val fr hy
    split at h
    rotate_left
    ·cases h
    rename_i hc
    refine ⟨_, _, h, fun R' k' => by simp only [evalOp, hm, hs, ho, hy, hc], Gg fun w F m ρc o hop hty hi hr => ?_⟩
    have hgf := Ax.freeze hi fr
    have hrm := hr mm
    rw [hm] at hrm
    unfold Rep at hrm
    rw [ho] at hrm
    obtain ⟨bb, c, e1, e2⟩ := hrm
    obtain ⟨b2, c', ms, clock, e3, e4, e5, e6⟩ := hgf.2.obj id _ ho
    rw [e1] at e3; cases e3
    have hrs := hr s
    rw [hs] at hrs
    unfold Rep at hrs
    have hsv := AXN hrs
    have hvd := Fi hi hy (hr y)
    have hlt := BL e4
    have hlen := Z6 e5
    rw [Array.length_toList] at hlen
    rw [Bool.and_eq_true, Ao, Am, decide_eq_true_iff, decide_eq_true_iff] at hc
    obtain ⟨n, rfl⟩ := Int.eq_ofNat_of_zero_le hc.1
    have hn : n < ms.size := by
     have := hc.2
     unfold AN at this
     omega
    have hfi := AVl e6 hn
    have hg : Ax w (Dc F m H fr) m H (Ak fr fz) { w with heap := w.heap.setIfInBounds bb (.map (ms.modify n fun e => { e with val := ρc y }) clock) } (Dc F m H fr) m (H.set id (.map ka b (API es (n : Int) val))) (Ak fr fz) := by
     refine Ax.set hgf.2 (EI ho) e1 ho trivial rfl rfl rfl (by simp) (fun k hk => by simp [Ne.symm hk]) fun _ => ?_
     refine ⟨bb, c, ms.modify n fun e => { e with val := ρc y }, clock, e1, by simp [hlt], ?_, e6.modify n fun _ => rfl⟩
     have he : Hc w (Dc F m H fr) ka b (es.modify n fun e => (e.1, val)) (ms.modify n fun e => { e with val := ρc y }).toList := by
      rw [Array.toList_modify]; exact AZR val (ρc y) hvd n e5
     unfold API
     rw [Int.toNat_natCast]
     refine he.mono (fun a ha => ?_) (fun _ h => h)
     have : a.block ≠ bb := by rintro rfl; exact hgf.2.off id _ c (EI ho) e1 ha
     simp [World.cell?, Ne.symm this]
    refine ⟨_, _, m, ?_, hgf.trans hg⟩
    simp only [execOp, hop, e2, hsv, Instr.entryStore, Sem.run_bind, Result.andThen_ok, CR e4, asInt, asIntOf, Sem.run_pure, hfi, Dt e4]
   ·cases h
  ·cases h
 ·cases h
theorem Ik (hE : ∀ g, AQ P g (E.spec g)) (o : Op) : Claim P E o := by
 cases o with
 | move x => exact AQ4 x
 | assign x => exact AHj x
 | pick c a b => exact AQ3 c a b
 | alloc T => exact AMX T
 | box T x => exact AV5 T x
 | build T parts => exact AMV T parts
 | buildSlice T len parts => exact Sh T len parts
 | load T x => exact AQ5 T x
 | store T x y => exact AMR T x y
 | nilCheck x => exact AAR x
 | binOp op T x y T' => exact AMW op T x y T'
 | unOp op T x => exact AQ2 op T x
 | convert S T x => exact ACG S T x
 | makeFunc fn first cs => exact AAT fn first cs
 | makeMap T r => exact ACE T r
 | makeSlice T x y => exact VT T x y
 | slice T x lo up mx =>
  cases mx with
  | none => exact Sf T x lo up
  | some mx => exact VR T x lo up mx
 | fieldAddr T x f => exact VV T x f
 | field T x f => exact AMT T x f
 | indexAddr T x y => exact VU T x y
 | index T x y => exact AMS T x y
 | lookup T m x ok => exact AHh T m x ok
 | mapUpdate T m x y => exact VS T m x y
 | insert T m x y => exact AHi T m x y
 | mapEntry T m x => exact AAS T m x
 | entryStore T m s y => exact Sg T m s y
 | extract x i => exact ACF x i
 | call c =>
  obtain ⟨callee, args, ts⟩ := c
  cases callee with
  | value f => exact AQ6 hE f args ts
  | invoke r n => intro R ty ρ H fz slot k r h; simp [evalOp] at h
  | builtin b =>
   cases b with
   | len => exact AV3 args ts
   | append => exact AHk args ts
   | cap => exact AV4 args ts
   | min => exact AV1 args ts
   | max => exact AV2 args ts
   | clear => exact AMU args ts
   | _ => intro R ty ρ H fz slot k r h; simp [evalOp] at h
 | _ => intro R ty ρ H fz slot k r h; simp [evalOp] at h
end
end Go.Pev
end
section
namespace Go.Pev
open Go.RowKit
structure SI (w : World) (F : Nat → Prop) (m : Mp) (st : St) (a : Act) : Prop where
 tmps : ∀ t, Rep w F m st.heap (st.tmps.getD t .junk) (a.tmps.getD t undef)
 size : st.tmps.length = a.tmps.size
 heap : HI w F m st.heap st.frz
 defers : a.defers = []
def Aca {R : Type} (r : R) (k : St → Option R) (w : World) (F : Nat → Prop) (m : Mp) (H : List Ob) (fz : List Bool) (a' : Act) (w' : World) : Prop :=
 ∃ st' F' m', k st' = some r ∧ SI w' F' m' st' a' ∧ Ext w F m H fz w' F' m' st'.heap st'.frz
section
variable {P : Program} {E : Env} {R : Type} {r : R}
theorem SI.put {w : World} {F : Nat → Prop} {m : Mp} {st : St} {a : Act} (h : SI w F m st a) {v : AV} {u : Value} (hr : Rep w F m st.heap v u) (d : Option Tmp) : SI w F m (st.put d v) (a.put d u) := by
 cases d with
 | none => exact h
 | some d =>
  refine ⟨fun t => ?_, by simp [St.put, Act.put, h.size], h.heap, h.defers⟩
  simp only [St.put, Act.put]
  by_cases htd : t = d
  ·subst htd
   by_cases hlt : t < st.tmps.length
   ·have hlt' : t < a.tmps.size := h.size ▸ hlt
    simp [hlt, hlt', hr]
   ·have hlt' : ¬ t < a.tmps.size := h.size ▸ hlt
    have := h.tmps t
    rw [List.getD_eq_getElem?_getD, Array.getD_eq_getD_getElem?] at this ⊢
    rw [List.set_eq_of_length_le (by omega)]
    simpa [Array.setIfInBounds, hlt'] using this
  ·have := h.tmps t
   rw [List.getD_eq_getElem?_getD, Array.getD_eq_getD_getElem?] at this ⊢
   rw [List.getElem?_set_ne (Ne.symm htd), Array.getElem?_setIfInBounds_ne (Ne.symm htd)]
   exact this
theorem SI.go {w w' : World} {F F' : Nat → Prop} {m m' : Mp} {st : St} {a : Act} (h : SI w F m st a) {e : Eff} (hg : Ax w F m st.heap st.frz w' F' m' (D7 e st.heap) (Ja e st.frz)) : SI w' F' m' (st.app e) a :=
 ⟨fun t => hg.1.rep h.heap (h.tmps t), h.size, hg.2, h.defers⟩
theorem SI.lit {w : World} {F : Nat → Prop} {m : Mp} {st : St} {a : Act} (h : SI w F m st a) {d : Nat} {b : Bool} (hd : st.tmps[d]? = some (.data .bool b)) : SI w F m { st with tmps := st.tmps.set d (.data .bool b) } a := by
 have : st.tmps.set d (.data .bool b) = st.tmps := by
  apply List.ext_getElem?
  intro i
  by_cases hid : i = d
  ·subst hid
   rw [hd, List.getElem?_set_self (by
    rcases Nat.lt_or_ge i st.tmps.length with h' | h'
    ·exact h'
    ·rw [List.getElem?_eq_none h'] at hd; cases hd)]
  ·rw [List.getElem?_set_ne (Ne.symm hid)]
 rw [this]; exact h
theorem Mk {w : World} {F : Nat → Prop} {m : Mp} {st : St} {a : Act} (h : SI w F m st a) {ops : Array Oper} {j d : Nat} (hj : (ops.toList[j]?).bind (·.dst) = some d) {b : Bool} (hd : st.tmps[d]? = some (.data .bool b)) :
  yielded ops a.tmps j = some b := by
 have hlt : d < st.tmps.length := by
  rcases Nat.lt_or_ge d st.tmps.length with h' | h'
  ·exact h'
  ·rw [List.getElem?_eq_none h'] at hd; cases hd
 have hlt' : d < a.tmps.size := h.size ▸ hlt
 have hr := h.tmps d
 rw [List.getD_eq_getElem?_getD, hd, Array.getD_eq_getD_getElem?, Array.getElem?_eq_getElem hlt'] at hr
 have hb := C3 hr
 simp only [Option.getD_some] at hb
 have hj' : (ops[j]?).bind (·.dst) = some d := by simpa using hj
 unfold yielded
 rw [hj']
 simp [Array.getElem?_eq_getElem hlt', hb]
theorem AI3 {w : World} {F : Nat → Prop} {m : Mp} {H : List Ob} : Rep w F m H BF undef := by
 unfold BF Rep
 exact ⟨#[], rfl, by unfold Ae; rfl⟩
theorem N5 {w : World} {F : Nat → Prop} {m : Mp} {st : St} {a : Act} (h : SI w F m st a) {ops : Array Oper} {j d : Nat} (hj : (ops.toList[j]?).bind (·.dst) = some d) (hd : st.tmps[d]? = some (.tup [])) :
  yielded ops a.tmps j = none := by
 have hlt : d < st.tmps.length := by
  rcases Nat.lt_or_ge d st.tmps.length with h' | h'
  ·exact h'
  ·rw [List.getElem?_eq_none h'] at hd; cases hd
 have hlt' : d < a.tmps.size := h.size ▸ hlt
 have hr := h.tmps d
 rw [List.getD_eq_getElem?_getD, hd, Array.getD_eq_getD_getElem?, Array.getElem?_eq_getElem hlt'] at hr
 simp only [Option.getD_some] at hr
 unfold Rep at hr
 obtain ⟨us, e, _⟩ := hr
 have hj' : (ops[j]?).bind (·.dst) = some d := by simpa using hj
 unfold yielded
 rw [hj']
 simp [Array.getElem?_eq_getElem hlt', e]
theorem AQK {w : World} {F : Nat → Prop} {m : Mp} {st : St} {a : Act} (h : SI w F m st a) {ops : Array Oper} {o : Oper} {yes no : St → Option R} (hg : guarded R ops.toList o.guard st yes no = some r) :
  ∃ st', SI w F m st' a ∧ st'.heap = st.heap ∧ st'.frz = st.frz ∧ ((Region.wanted o (yielded ops a.tmps) = true ∧ yes st' = some r) ∨ (Region.wanted o (yielded ops a.tmps) = false ∧ no st' = some r)) := by
 unfold guarded at hg
 split at hg
 ·rename_i hgd
  exact ⟨st, h, rfl, rfl, .inl ⟨by simp [Region.wanted, hgd], hg⟩⟩
 ·rename_i j want hgd
  split at hg
  ·cases hg
  ·rename_i d hj
   split at hg
   ·rename_i b hd
    have hy := Mk h hj hd
    split at hg
    ·split at hg
     ·exact ⟨_, h.lit hd, rfl, rfl, .inl ⟨by simp [Region.wanted, hgd, hy], hg⟩⟩
     ·exact ⟨_, h.lit hd, rfl, rfl, .inr ⟨by simp [Region.wanted, hgd, hy], hg⟩⟩
    ·split at hg
     ·exact ⟨_, h.lit hd, rfl, rfl, .inr ⟨by simp [Region.wanted, hgd, hy], hg⟩⟩
     ·exact ⟨_, h.lit hd, rfl, rfl, .inl ⟨by simp [Region.wanted, hgd, hy], hg⟩⟩
   ·rename_i hd
    exact ⟨st, h, rfl, rfl, .inr ⟨by simp [Region.wanted, hgd, N5 h hj hd], hg⟩⟩
   ·cases hg
theorem AT7 (hE : ∀ g, AQ P g (E.spec g)) {ops : Array Oper} {Q : Exit → Act → World → Prop} {k : St → Option R} : ∀ (rest pre : List Oper) (slot : Nat) (st : St) (w : World) (F : Nat → Prop) (m : Mp) (a : Act), ops.toList = pre ++ rest →
  IE P E R ops.toList rest slot st k = some r → SI w F m st a → (∀ a' w', Aca r k w F m st.heap st.frz a' w' → Q .normal a' w') → wpOps P ops Q (List.range' pre.length rest.length) a w := by
 intro rest
 induction rest with
 | nil =>
  intro pre slot st w F m a _ h hs hq
  exact hq a w ⟨st, F, m, h, hs, Ext.refl ..⟩
 | cons o rest ih =>
  intro pre slot st w F m a hops h hs hq
  simp only [IE] at h
  have hget : ops[pre.length]? = some o := by
   rw [← Array.getElem?_toList, hops]; simp
  have hops' : ops.toList = (pre ++ [o]) ++ rest := by rw [hops]; simp
  have hlen : (pre ++ [o]).length = pre.length + 1 := by simp
  rw [List.length_cons, List.range'_succ]
  simp only [wpOps, hget]
  obtain ⟨st', hs', e1, e2, hh⟩ := AQK hs h
  rcases hh with ⟨hw, hy⟩ | ⟨hw, hn⟩
  ·rw [if_pos hw]
   left
   obtain ⟨v, e, h1, _, h3⟩ := Ik hE o.op R _ _ _ _ _ _ _ hy
   refine h3 w F m a o _ Q rfl rfl hs'.heap (fun x => Zl hs'.tmps x) fun u w' F' m' hg hr => ?_
   have hs2 := (hs'.go hg).put hr o.dst
   have := ih (pre ++ [o]) _ _ w' F' m' (a.put o.dst u) hops' h1 hs2 fun a' w'' ⟨st2, F2, m2, q1, q2, q3⟩ => hq a' w'' ⟨st2, F2, m2, q1, q2, by
    have hx := hg.1
    rw [e1, e2] at hx
    refine hx.trans ?_
    have : ((st'.app e).put o.dst v).heap = D7 e st.heap ∧ ((st'.app e).put o.dst v).frz = Ja e st.frz := by
     cases o.dst <;> simp [St.put, St.app, e1, e2]
    rw [this.1, this.2] at q3
    exact q3⟩
   rw [hlen] at this
   exact this
  ·rw [if_neg (by simp [hw])]
   have hs2 : SI w F m (st'.put o.dst BF) (a.put o.dst undef) := hs'.put AI3 o.dst
   have := ih (pre ++ [o]) _ _ w F m (a.put o.dst undef) hops' hn hs2 fun a' w'' ⟨st2, F2, m2, q1, q2, q3⟩ => hq a' w'' ⟨st2, F2, m2, q1, q2, by
    have : (st'.put o.dst BF).heap = st.heap ∧ (st'.put o.dst BF).frz = st.frz := by
     cases o.dst <;> simp [St.put, e1, e2]
    rw [this.1, this.2] at q3
    exact q3⟩
   rw [hlen] at this
   exact this
theorem HI.pad {w : World} {F : Nat → Prop} {m : Mp} {H : List Ob} {fz : List Bool} (hi : HI w F m H fz) (n : Nat) : Ax w F m H fz w F m (H ++ List.replicate n .free) (fz ++ List.replicate n false) := by
 have hget : ∀ i o, H[i]? = some o → (H ++ List.replicate n Ob.free)[i]? = some o := fun i o h => by
  rw [List.getElem?_append_left (Av h)]; exact h
 have hget' : ∀ i o, (H ++ List.replicate n Ob.free)[i]? = some o → H[i]? = some o ∨ o = Ob.free := fun i o h => by
  rcases Nat.lt_or_ge i H.length with hl | hl
  ·rw [List.getElem?_append_left hl] at h; exact .inl h
  ·rw [List.getElem?_append_right hl] at h
   exact .inr (List.eq_of_mem_replicate (List.mem_of_getElem? h))
 have hfz : ∀ i, (fz ++ List.replicate n false).getD i false = fz.getD i false := fun i => by
  rw [List.getD_eq_getElem?_getD, List.getD_eq_getElem?_getD]
  rcases Nat.lt_or_ge i fz.length with hl | hl
  ·rw [List.getElem?_append_left hl]
  ·rw [List.getElem?_append_right hl, List.getElem?_eq_none hl]
   cases hx : (List.replicate n false)[i - fz.length]? with
   | none => rfl
   | some b => rw [List.eq_of_mem_replicate (List.mem_of_getElem? hx)]; rfl
 have hown : ∀ i, owned (H ++ List.replicate n .free) (fz ++ List.replicate n false) i → owned H fz i := fun i ho => by
  obtain ⟨o, h1, h2, h3⟩ := C5 ho
  unfold owned at *
  rcases hget' i o h1 with h4 | h4
  ·rw [h4]; rw [h1] at ho
   cases o with
   | free => exact absurd rfl h2
   | dead => exact absurd rfl h3
   | box cs => trivial
   | map a b es => trivial
   | prs T t is => trivial
   | arr T t xs => simp only at ho ⊢; rw [hfz] at ho; exact ho
  ·exact absurd h4 h2
 have hcomp : Ck H (H ++ List.replicate n .free) m m := by
  intro i o ho hf
  rcases Ck.refl H m i o ho hf with h | ⟨hd, o', h1, h2, _⟩
  ·exact .inl (hget i _ h)
  ·exact .inr ⟨hd, o', hget i _ h1, h2, rfl⟩
 refine ⟨⟨rfl, rfl, rfl, Nat.le_refl _, fun _ _ _ => rfl, fun _ h => h, fun _ h => .inl h, fun i b c h1 h2 => .inl ⟨i, c, hown i h1, h2⟩, hcomp⟩, ⟨?_, ?_, ?_, ?_, hi.lt, by simp [hi.len]⟩⟩
 ·intro id o ho
  rcases hget' id o ho with h | rfl
  ·exact ObI.mono (fun _ _ => rfl) (fun _ h => h) hcomp (fun _ _ _ _ _ _ => rfl) (hi.obj id o h)
  ·trivial
 ·exact fun i k b c b' c' h1 h2 => hi.sep i k b c b' c' (hown i h1) (hown k h2)
 ·exact fun i b c h1 => hi.off i b c (hown i h1)
 ·intro i T t xs b c hio hf hmi
  rw [hfz] at hf
  rcases hget' i _ hio with h | h
  ·exact hi.froz i T t xs b c h hf hmi
  ·cases h
theorem SI.pad {w : World} {F : Nat → Prop} {m : Mp} {st : St} {a : Act} (h : SI w F m st a) (n : Nat) : SI w F m (st.pad n) a ∧ Ext w F m st.heap st.frz w F m (st.pad n).heap (st.pad n).frz := by
 have hg := h.heap.pad n
 exact ⟨⟨fun t => hg.1.rep h.heap (h.tmps t), h.size, hg.2, h.defers⟩, hg.1⟩
theorem AFh (hE : ∀ g, AQ P g (E.spec g)) {id : Nat} {ops : Array Oper} {Q : Exit → Act → World → Prop} {k : St → Option R} {st : St} {w : World} {F : Nat → Prop} {m : Mp} {a : Act} (h : Ge P E R ops.toList st k = some r) (hs : SI w F m st a)
  (hq : ∀ a' w', Aca r k w F m st.heap st.frz a' w' → Q .normal a' w') : (Code.region id ops false).wp P Q a w := by
 obtain ⟨h1, h2⟩ := hs.pad (Ea ops.toList)
 have := AT7 hE ops.toList [] _ _ w F m a (by simp) h h1 fun a' w' ⟨st', F', m', q1, q2, q3⟩ => hq a' w' ⟨st', F', m', q1, q2, h2.trans q3⟩
 rw [List.length_nil, Array.length_toList, ← List.range_eq_range'] at this
 exact wp_region this
end
end Go.Pev
end
section
namespace Go.Pev
open Go.RowKit
theorem GY {H H' : List Ob} (t : Ty) (v : AV) (h : ∀ id ∈ Az v, H[id]? = H'[id]?) : D6 H t v = D6 H' t v := by
 cases v <;> simp only [D6]
 ·rename_i id; rw [h id (by simp [Az])]
 ·rename_i id off n; rw [h id (by simp [Az])]
theorem AQH {α : Type} {one one' : List AV → Option (α × List Nat × List AV)} {H H' : List Ob}
  (h1 : ∀ cs, (∀ id ∈ BC cs, H[id]? = H'[id]?) → one cs = one' cs) (h2 : ∀ cs x f r, one cs = some (x, f, r) → ∃ c0, cs = c0 ++ r) :
  ∀ (n : Nat) (cs : List AV), (∀ id ∈ BC cs, H[id]? = H'[id]?) → O4 one n cs = O4 one' n cs := by
 intro n
 induction n with
 | zero => intro cs _; rfl
 | succ n ih =>
  intro cs h
  simp only [O4]
  rw [← h1 cs h]
  cases ho : one cs with
  | none => rfl
  | some p =>
   obtain ⟨x, f, r⟩ := p
   simp only
   obtain ⟨c0, hc⟩ := h2 _ _ _ _ ho
   rw [ih r fun id hid => h id (by
    subst hc
    clear ho
    induction c0 with
    | nil => exact hid
    | cons c c0 ih' => simp only [List.cons_append, BC, List.mem_append]; exact .inr (ih' fun id hid => h id (by simp only [List.cons_append, BC, List.mem_append]; exact .inr hid)))]
theorem AVM {α : Type} {one : List AV → Option (α × List Nat × List AV)} (h2 : ∀ cs x f r, one cs = some (x, f, r) → ∃ c0, cs = c0 ++ r) :
  ∀ (n : Nat) (cs : List AV) (xs : List α) (f : List Nat) (r : List AV), O4 one n cs = some (xs, f, r) → ∃ c0, cs = c0 ++ r := by
 intro n
 induction n with
 | zero => intro cs xs f r h; simp only [O4, Option.some.injEq, Prod.mk.injEq] at h; exact ⟨[], h.2.2⟩
 | succ n ih =>
  intro cs xs f r h
  simp only [O4] at h
  split at h
  ·cases h
  ·rename_i x f1 cs1 ho
   split at h
   ·cases h
   ·rename_i ys g cs2 hi
    simp only [Option.some.injEq, Prod.mk.injEq] at h
    obtain ⟨_, _, rfl⟩ := h
    obtain ⟨c0, rfl⟩ := h2 _ _ _ _ ho
    obtain ⟨c1, rfl⟩ := ih _ _ _ _ hi
    exact ⟨c0 ++ c1, by simp⟩
theorem O5 {H : List Ob} : ∀ (t : Ty) (cs : List AV) (x : t.den) (f : List Nat) (r : List AV), Aw H t cs = some (x, f, r) → ∃ c0, cs = c0 ++ r := by
 intro t
 induction t with
 | unit => intro cs x f r h; simp only [Aw, Option.some.injEq, Prod.mk.injEq] at h; exact ⟨[], h.2.2⟩
 | bool =>
  intro cs x f r h
  cases cs with
  | nil => simp [Aw] at h
  | cons c cs =>
   unfold Aw at h
   split at h
   ·cases h
   ·simp only [Option.some.injEq, Prod.mk.injEq] at h; exact ⟨[c], by simp [h.2.2]⟩
 | int k =>
  intro cs x f r h
  cases cs with
  | nil => simp [Aw] at h
  | cons c cs =>
   unfold Aw at h
   split at h
   ·cases h
   ·simp only [Option.some.injEq, Prod.mk.injEq] at h; exact ⟨[c], by simp [h.2.2]⟩
 | slice e _ =>
  intro cs x f r h
  cases cs with
  | nil => simp [Aw] at h
  | cons c cs =>
   unfold Aw at h
   split at h
   ·cases h
   ·simp only [Option.some.injEq, Prod.mk.injEq] at h; exact ⟨[c], by simp [h.2.2]⟩
 | prod a b iha ihb =>
  intro cs x f r h
  simp only [Aw] at h
  split at h
  ·cases h
  ·rename_i y f1 cs1 hy
   split at h
   ·cases h
   ·rename_i z g cs2 hz
    simp only [Option.some.injEq, Prod.mk.injEq] at h
    obtain ⟨_, _, rfl⟩ := h
    obtain ⟨c0, rfl⟩ := iha _ _ _ _ hy
    obtain ⟨c1, rfl⟩ := ihb _ _ _ _ hz
    exact ⟨c0 ++ c1, by simp⟩
 | arr n e ih =>
  intro cs x f r h
  simp only [Aw] at h
  exact AVM ih n cs _ _ _ h
theorem DI (a b : List AV) : BC (a ++ b) = BC a ++ BC b := by
 induction a with
 | nil => rfl
 | cons x a ih => simp [BC, ih]
theorem Ma {H H' : List Ob} : ∀ (t : Ty) (cs : List AV), (∀ id ∈ BC cs, H[id]? = H'[id]?) → Aw H t cs = Aw H' t cs := by
 intro t
 induction t with
 | unit => intro cs _; cases cs <;> rfl
 | bool =>
  intro cs h
  cases cs with
  | nil => rfl
  | cons c cs => unfold Aw; rw [GY .bool c fun id hid => h id (by simp [BC, hid])]
 | int k =>
  intro cs h
  cases cs with
  | nil => rfl
  | cons c cs => unfold Aw; rw [GY (.int k) c fun id hid => h id (by simp [BC, hid])]
 | slice e _ =>
  intro cs h
  cases cs with
  | nil => rfl
  | cons c cs => unfold Aw; rw [GY (.slice e) c fun id hid => h id (by simp [BC, hid])]
 | prod a b iha ihb =>
  intro cs h
  simp only [Aw]
  rw [← iha cs h]
  cases hx : Aw H a cs with
  | none => rfl
  | some p =>
   obtain ⟨x, f, r⟩ := p
   simp only
   obtain ⟨c0, rfl⟩ := O5 a _ _ _ _ hx
   rw [ihb r fun id hid => h id (by rw [DI]; simp [hid])]
 | arr n e ih =>
  intro cs h
  simp only [Aw]
  exact AQH ih (O5 e) n cs h
theorem Bf {H H' : List Ob} (t : Ty) (v : AV) (h : ∀ id ∈ Az v, H[id]? = H'[id]?) : FP H t v = FP H' t v := by
 unfold FP
 split
 ·cases v <;> simp only [asAgg]
  rename_i cs
  rw [Ma t cs fun id hid => h id (by simpa [Az] using hid)]
 ·exact GY t v h
structure QO (T : List Nat) (slot n : Nat) (W : List Nat) (H H' : List Ob) (fz fz' : List Bool) : Prop where
 heap : ∀ id ∈ T, H[id]? = H'[id]?
 slotH : ∀ s, slot ≤ s → s < slot + n → H[s]? = H'[s]?
 slotF : ∀ s, slot ≤ s → s < slot + n → fz.getD s false = fz'.getD s false
 len : fz.length = fz'.length
 wrF : ∀ id ∈ W, fz.getD id false = fz'.getD id false
theorem GU {T : List Nat} {slot n : Nat} {W : List Nat} {H H' : List Ob} {fz fz' : List Bool} (h : QO T slot n W H H' fz fz') {s : Nat} (h1 : slot ≤ s) (h2 : s < slot + n) (fr : List Nat) :
  A3 H (Ak fr fz) s = A3 H' (Ak fr fz') s := by
 unfold A3
 rw [h.slotH s h1 h2, A1, A1, h.slotF s h1 h2, h.len]
theorem CF {T : List Nat} {slot n : Nat} {W : List Nat} {H H' : List Ob} {fz fz' : List Bool} (h : QO T slot n W H H' fz fz') {s : Nat} (h1 : slot ≤ s) (h2 : s < slot + n) :
  A3 H fz s = A3 H' fz' s := GU h h1 h2 []
theorem Ct {T W : List Nat} {slot n : Nat} {H H' : List Ob} {fz fz' : List Bool} (h : QO T slot n W H H' fz fz') {id : Nat} (hid : id ∈ W) (fr : List Nat) :
  Ay (Ak fr fz) id = Ay (Ak fr fz') id := by
 unfold Ay
 rw [A1, A1, h.wrF id hid, h.len]
def Ss (s : Spec) : Prop :=
 ∀ R args H H' fz fz' slot k, QO (BC args) slot 4 [] H H' fz fz' → s R args H fz slot k = s R args H' fz' slot k
def AIN (S : List Nat) (H : List Ob) : Prop := ∀ id ∈ S, ∀ cs, H[id]? = some (.box cs) → ∀ j ∈ BC cs, j ∈ S
def WE (s : Spec) : Prop :=
 ∀ R args H H' fz fz' slot k (S : List Nat), (∀ id ∈ BC args, id ∈ S) → AIN S H → QO S slot 4 S H H' fz fz' → s R args H fz slot k = s R args H' fz' slot k
def H6 (E : Env) : Prop := (∀ g, E.loc g = true → Ss (E.spec g)) ∧ ∀ g, E.loc2 g = true → WE (E.spec g)
section
variable {P : Program} {E : Env}
theorem NA {ρ ρ' : Operand → AV} {l : List Operand} (h : ∀ x ∈ l, ρ x = ρ' x) : l.map ρ = l.map ρ' := List.map_congr_left h
theorem TV {ρ ρ' : Operand → AV} {l : List (Nat × Operand)} (h : ∀ x ∈ l.map (·.2), ρ x = ρ' x) : (l.map fun p => (p.1, ρ p.2)) = l.map fun p => (p.1, ρ' p.2) :=
 List.map_congr_left fun p hp => by rw [h p.2 (List.mem_map_of_mem hp)]
theorem O0 {ρ ρ' : Operand → AV} {o : Option Operand} (h : ∀ x ∈ o.toArray, ρ x = ρ' x) : IG ρ o = IG ρ' o := by
 cases o with
 | none => rfl
 | some x => simp only [IG]; rw [h x (by simp)]
theorem Bh {R : Type} {ρ ρ' : Operand → AV} (o : Op) (ty : TypeId) (H : List Ob) (fz : List Bool) (slot : Nat) (k : AV → Eff → Option R) (h : ∀ x ∈ o.operands, ρ x = ρ' x) :
  evalOp P E R o ty ρ H fz slot k = evalOp P E R o ty ρ' H fz slot k := by
 cases o with
 | call c =>
  obtain ⟨callee, args, ts⟩ := c
  cases callee with
  | value f =>
   have hf := h f (by simp [Op.operands, Call.operands])
   have ha : args.toList.map ρ = args.toList.map ρ' := NA fun x hx => h x (by simp [Op.operands, Call.operands]; right; simpa using hx)
   simp only [evalOp, hf, ha]
  | invoke r n => rfl
  | builtin b =>
   have ha : ∀ x ∈ args.toList, ρ x = ρ' x := fun x hx => h x (by simp [Op.operands, Call.operands]; simpa using hx)
   cases b with
   | len =>
    simp only [evalOp]
    cases hl : args.toList with
    | nil => rfl
    | cons x r => cases r with
     | nil =>
      rw [hl] at ha
      cases ts.toList with
      | nil => rfl
      | cons T r => cases r with
       | nil => simp only [ha x (by simp)]
       | cons T' r => rfl
     | cons y r => rfl
   | append =>
    simp only [evalOp]
    cases hl : args.toList with
    | nil => rfl
    | cons x r => cases r with
     | nil => rfl
     | cons y r => cases r with
      | nil =>
       rw [hl] at ha
       cases ts.toList with
       | nil => rfl
       | cons T r => cases r with
        | nil => rfl
        | cons T' r => cases r with
         | nil => simp only [ha x (by simp), ha y (by simp)]
         | cons T'' r => rfl
      | cons z r => rfl
   | cap =>
    simp only [evalOp]
    cases hl : args.toList with
    | nil => rfl
    | cons x r => cases r with
     | nil =>
      rw [hl] at ha
      cases ts.toList with
      | nil => rfl
      | cons T r => cases r with
       | nil => simp only [ha x (by simp)]
       | cons T' r => rfl
     | cons y r => rfl
   | clear =>
    simp only [evalOp]
    cases hl : args.toList with
    | nil => rfl
    | cons x r => cases r with
     | nil =>
      rw [hl] at ha
      cases ts.toList with
      | nil => rfl
      | cons T r => cases r with
       | nil => simp only [ha x (by simp)]
       | cons T' r => rfl
     | cons y r => rfl
   | min =>
    simp only [evalOp]
    cases hl : args.toList with
    | nil => rfl
    | cons x r => cases r with
     | nil => rfl
     | cons y r => cases r with
      | nil =>
       rw [hl] at ha
       simp only [ha x (by simp), ha y (by simp)]
      | cons z r => rfl
   | max =>
    simp only [evalOp]
    cases hl : args.toList with
    | nil => rfl
    | cons x r => cases r with
     | nil => rfl
     | cons y r => cases r with
      | nil =>
       rw [hl] at ha
       simp only [ha x (by simp), ha y (by simp)]
      | cons z r => rfl
   | _ => rfl
 | build T parts =>
  have := TV (ρ := ρ) (ρ' := ρ') (l := parts.toList) fun x hx => h x (by simpa [Op.operands] using hx)
  simp only [evalOp, this]
 | buildSlice T n parts =>
  have := TV (ρ := ρ) (ρ' := ρ') (l := parts.toList) fun x hx => h x (by simpa [Op.operands] using hx)
  simp only [evalOp, this]
 | makeFunc fn first cs =>
  cases fn with
  | func f =>
   have := NA (ρ := ρ) (ρ' := ρ') (l := cs.toList) fun x hx => h x (by simp [Op.operands]; right; simpa using hx)
   have hfst := NA (ρ := ρ) (ρ' := ρ') (l := first.toList) fun x hx => h x (by simp [Op.operands]; left; simpa using hx)
   simp only [evalOp, this]
   cases hfl : first.toList with
   | nil => rfl
   | cons y ys =>
    rw [hfl] at hfst
    simp only [hfst]
  | _ => rfl
 | slice T x lo up mx =>
  have hx := h x (by simp [Op.operands])
  have hlo := O0 (ρ := ρ) (ρ' := ρ') (o := lo) fun y hy => h y (by simp [Op.operands]; simp at hy; simp [hy])
  have hup := O0 (ρ := ρ) (ρ' := ρ') (o := up) fun y hy => h y (by simp [Op.operands]; simp at hy; simp [hy])
  cases mx with
  | none => simp only [evalOp, hx, hlo, hup]
  | some m =>
   have hm := h m (by simp [Op.operands])
   simp only [evalOp, hx, hlo, hup, hm]
 | makeMap T o => cases o <;> rfl
 | pick a b c => simp only [evalOp, h a (by simp [Op.operands]), h b (by simp [Op.operands]), h c (by simp [Op.operands])]
 | mapUpdate a b c d => simp only [evalOp, h b (by simp [Op.operands]), h c (by simp [Op.operands]), h d (by simp [Op.operands])]
 | mapEntry a b c => simp only [evalOp, h b (by simp [Op.operands]), h c (by simp [Op.operands])]
 | entryStore a b c d => simp only [evalOp, h b (by simp [Op.operands]), h c (by simp [Op.operands]), h d (by simp [Op.operands])]
 | insert a b c d => simp only [evalOp, h b (by simp [Op.operands]), h c (by simp [Op.operands]), h d (by simp [Op.operands])]
 | move x | assign x | box _ x | load _ x | nilCheck x | unOp _ _ x | convert _ _ x | fieldAddr _ x _ | field _ x _ | extract x _ =>
  simp only [evalOp, h x (by simp [Op.operands])]
 | store _ x y | binOp _ _ x y _ | makeSlice _ x y | indexAddr _ x y | index _ x y | lookup _ x y _ =>
  simp only [evalOp, h x (by simp [Op.operands]), h y (by simp [Op.operands])]
 | _ => rfl
theorem Gt {ρ : Operand → AV} {o : Op} {x : Operand} (hx : x ∈ o.operands) {id : Nat} (hid : id ∈ Az (ρ x)) : id ∈ F9 ρ o := by
 unfold F9
 exact List.mem_flatMap.2 ⟨x, by simpa using hx, hid⟩
theorem VL {H H' : List Ob} (t : Ty) : ∀ (ps : List (Nat × AV)) (xs : List t.den) (fr : List Nat), (∀ p ∈ ps, ∀ id ∈ Az p.2, H[id]? = H'[id]?) → Cp H t ps xs fr = Cp H' t ps xs fr := by
 intro ps
 induction ps with
 | nil => intro xs fr _; rfl
 | cons p ps ih =>
  intro xs fr h
  obtain ⟨i, v⟩ := p
  simp only [Cp]
  rw [Bf t v (h (i, v) (by simp))]
  cases FP H' t v with
  | none => rfl
  | some q => cases decide (i < xs.length) with
   | true => exact ih _ _ fun p hp => h p (by simp [hp])
   | false => rfl
theorem Fc : ∀ (t : Ty) (d : t.den), BC (BE t d) = [] := by
 intro t
 induction t with
 | unit => intro d; rfl
 | bool => intro d; rfl
 | int k => intro d; rfl
 | slice e _ => intro d; rfl
 | prod a b iha ihb => intro d; simp only [BE]; rw [DI, iha, ihb]; rfl
 | arr n e ih =>
  intro d
  simp only [BE]
  have key : ∀ l : List Nat, BC (l.flatMap fun i => BE e (AT d i e.zero)) = [] := by
   intro l
   induction l with
   | nil => rfl
   | cons x xs ih' => rw [List.flatMap_cons, DI, ih, ih']; rfl
  exact key _
theorem AN7 (l : List AV) (n : Nat) {id : Nat} (h : id ∈ BC (l.take n)) : id ∈ BC l := by
 have := List.take_append_drop n l
 rw [← this, DI]; simp [h]
theorem AN8 (l : List AV) (n : Nat) {id : Nat} (h : id ∈ BC (l.drop n)) : id ∈ BC l := by
 have := List.take_append_drop n l
 rw [← this, DI]; simp [h]
theorem cells?_refs {v : AV} {vs : List AV} (h : cells? v = some vs) {id : Nat} (hid : id ∈ BC vs) : id ∈ Az v := by
 cases v with
 | junk => simp [cells?] at h
 | tup _ => simp [cells?] at h
 | agg cs => simp only [cells?, Option.some.injEq] at h; subst h; simpa [Az] using hid
 | data t d =>
  cases t with
  | unit => simp only [cells?, Option.some.injEq] at h; subst h; simp [BC] at hid
  | prod a b => simp only [cells?, Option.some.injEq] at h; subst h; rw [Fc] at hid; cases hid
  | arr n e => simp only [cells?, Option.some.injEq] at h; subst h; rw [Fc] at hid; cases hid
  | bool => simp only [cells?, Option.some.injEq] at h; subst h; simpa [BC] using hid
  | int k => simp only [cells?, Option.some.injEq] at h; subst h; simpa [BC] using hid
  | slice e => simp only [cells?, Option.some.injEq] at h; subst h; simpa [BC] using hid
 | _ => simp only [cells?, Option.some.injEq] at h; subst h; simpa [BC] using hid
theorem AOL {t : Ty} {d : t.den} {v : AV} {vs cs : List AV} {s : Nat} (hp : C4 (BE t d) vs s = some cs) (hc : cells? v = some vs) {id : Nat} (hid : id ∈ BC cs) : id ∈ Az v := by
 unfold C4 at hp
 split at hp
 ·simp only [Option.some.injEq] at hp; subst hp
  rw [DI, DI, List.mem_append, List.mem_append] at hid
  rcases hid with (hid | hid) | hid
  ·have := AN7 _ _ hid; rw [Fc] at this; cases this
  ·exact cells?_refs hc hid
  ·have := AN8 _ _ hid; rw [Fc] at this; cases this
 ·cases hp
theorem Md {R : Type} (hL : H6 E) {ρ : Operand → AV} (o : Op) (ty : TypeId) {H H' : List Ob} {fz fz' : List Bool} {slot : Nat} (k : AV → Eff → Option R)
  (ha : QO (F9 ρ o) slot (slotsOf o) (ET ρ o) H H' fz fz') (hl : Fe E ρ o = true) : evalOp P E R o ty ρ H fz slot k = evalOp P E R o ty ρ H' fz' slot k := by
 have tm : ∀ x ∈ o.operands, ∀ id ∈ Az (ρ x), H[id]? = H'[id]? := fun x hx id hid => ha.heap id (Gt hx hid)
 have own : ∀ x ∈ o.operands, ∀ id, ρ x = .own id → H[id]? = H'[id]? := fun x hx id h => tm x hx id (by rw [h]; simp [Az])
 have win : ∀ x ∈ o.operands, ∀ id off n, ρ x = .win id off n → H[id]? = H'[id]? := fun x hx id off n h => tm x hx id (by rw [h]; simp [Az])
 have ptr : ∀ x ∈ o.operands, ∀ id off, ρ x = .ptr id off → H[id]? = H'[id]? := fun x hx id off h => tm x hx id (by rw [h]; simp [Az])
 have ept : ∀ x ∈ o.operands, ∀ id i s, ρ x = .eptr id i s → H[id]? = H'[id]? := fun x hx id i s h => tm x hx id (by rw [h]; simp [Az])
 have mpp : ∀ x ∈ o.operands, ∀ id, ρ x = .mp id → H[id]? = H'[id]? := fun x hx id h => tm x hx id (by rw [h]; simp [Az])
 cases o with
 | alloc T =>
  simp only [evalOp, CF ha (s := slot) (Nat.le_refl _) (by simp [slotsOf])]
 | box T x =>
  simp only [evalOp, CF ha (s := slot) (Nat.le_refl _) (by simp [slotsOf])]
 | buildSlice T n parts =>
  have hf : ∀ (t : Ty) xs fr, Cp H t (parts.toList.map fun p => (p.1, ρ p.2)) xs fr = Cp H' t (parts.toList.map fun p => (p.1, ρ p.2)) xs fr := fun t xs fr =>
   VL t _ xs fr fun p hp id hid => by
    obtain ⟨q, hq, rfl⟩ := List.mem_map.1 hp
    exact tm q.2 (by simp [Op.operands]; exact ⟨q.1, by simpa using hq⟩) id hid
  simp only [evalOp, hf, GU ha (s := slot) (Nat.le_refl _) (by simp [slotsOf]), CF ha (s := slot) (Nat.le_refl _) (by simp [slotsOf])]
  cases sliceAt P T with
  | some p => rfl
  | none =>
   dsimp only
   cases cellAt P T with
   | none => rfl
   | some e => cases decide (n = 1) with
    | false => rfl
    | true =>
     cases hps : parts.toList with
     | nil => rfl
     | cons p r => cases r with
      | cons p' r => rfl
      | nil =>
       simp only [List.map_cons, List.map_nil]
       cases hx : ρ p.2 <;> try rfl
       rename_i id i s
       dsimp only
       simp only [CH, ept p.2 (by simp [Op.operands]; exact ⟨p.1, (by simpa using (show p ∈ parts.toList by rw [hps]; simp))⟩) id i s hx]
 | load T x =>
  simp only [evalOp]
  cases BJ P T with
  | none => rfl
  | some n => cases F4 P T with
   | none => rfl
   | some ag =>
    cases hx : ρ x <;> try rfl
    ·rename_i id off; simp only [ptr x (by simp [Op.operands]) id off hx]
    ·rename_i id i s; simp only [ept x (by simp [Op.operands]) id i s hx]
 | store T x y =>
  have hy := tm y (by simp [Op.operands])
  simp only [evalOp]
  cases hs : BJ P T with
  | none => rfl
  | some n => cases hc : cells? (ρ y) with
   | none => rfl
   | some vs =>
    dsimp only
    cases hd : decide (vs.length = n) with
    | false => rfl
    | true =>
     dsimp only
     cases hx : ρ x <;> try rfl
     ·rename_i id off; dsimp only; rw [ptr x (by simp [Op.operands]) id off hx]
     ·rename_i id i s
      dsimp only
      rw [ept x (by simp [Op.operands]) id i s hx]
      have hun : ∀ fr, Ay (Ak fr fz) id = Ay (Ak fr fz') id := fun fr => Ct ha (by simp [ET, hx, Az]) fr
      cases H'[id]? with
      | none => rfl
      | some ob => cases ob with
       | arr T' t xs =>
        simp only [hun, Bf t (ρ y) hy]
        cases (s == 0 && n == t.size) with
        | true => rfl
        | false =>
         dsimp only
         cases hp : C4 (BE t (AT xs i t.zero)) vs s with
         | none => rfl
         | some cs =>
          dsimp only
          rw [Ma t cs (fun id' hid => hy id' (AOL hp hc hid))]
       | _ => rfl
 | nilCheck x =>
  simp only [evalOp]
  cases hx : ρ x <;> try rfl
  ·rename_i id off; simp only [Hl, ptr x (by simp [Op.operands]) id off hx]
  ·rename_i id i s; simp only [CH, ept x (by simp [Op.operands]) id i s hx]
 | fieldAddr T x f =>
  simp only [evalOp]
  cases fieldAt P T f with
  | none => rfl
  | some p =>
   obtain ⟨off, size, ag⟩ := p
   dsimp only
   cases decide (size = 0) with
   | true => rfl
   | false =>
    dsimp only
    cases hx : ρ x <;> try rfl
    ·rename_i id off; simp only [Hl, ptr x (by simp [Op.operands]) id off hx]
    ·rename_i id i s; simp only [CH, ept x (by simp [Op.operands]) id i s hx]
 | makeMap T o =>
  cases o with
  | none => simp only [evalOp, CF ha (s := slot) (Nat.le_refl _) (by simp [slotsOf])]
  | some x => rfl
 | makeSlice T x y => simp only [evalOp, CF ha (s := slot) (Nat.le_refl _) (by simp [slotsOf])]
 | slice T x lo up mx =>
  have hx := tm x (by simp [Op.operands])
  cases mx with
  | none =>
   have hsl : ∀ sz l h, FZ H sz (ρ x) l h R = FZ H' sz (ρ x) l h R := fun sz l h => by
    funext kk
    unfold FZ
    cases hv : ρ x with
    | data t d => cases t <;> rfl
    | own id => dsimp only; rw [own x (by simp [Op.operands]) id hv]
    | win id off n => dsimp only; rw [win x (by simp [Op.operands]) id off n hv]
    | _ => rfl
   simp only [evalOp, hsl]
  | some mm =>
   have hsl : E5 H (ρ x) = E5 H' (ρ x) := by
    unfold E5
    cases hv : ρ x with
    | data t d => cases t <;> rfl
    | own id => simp only [CH, own x (by simp [Op.operands]) id hv]
    | win id off n => simp only [CH, win x (by simp [Op.operands]) id off n hv]
    | _ => rfl
   simp only [evalOp, hsl, CF ha (s := slot) (Nat.le_refl _) (by simp [slotsOf])]
 | indexAddr T x y =>
  simp only [evalOp]
  cases hu : P.underlying T with
  | none => rfl
  | some d => cases d with
   | slice e =>
    cases hy : ρ y <;> try rfl
    rename_i t d'
    cases t <;> try rfl
    cases hv : ρ x with
    | data t d => cases t <;> rfl
    | own id => dsimp only; rw [own x (by simp [Op.operands]) id hv]
    | win id off n => dsimp only; rw [win x (by simp [Op.operands]) id off n hv]
    | _ => rfl
   | array n e =>
    cases hy : ρ y <;> try rfl
    rename_i t d'
    cases t <;> try rfl
    rename_i j
    dsimp only
    cases BJ P e with
    | none => rfl
    | some s => cases decide (0 ≤ (d' : Int) ∧ (d' : Int) < (n : Int)) with
     | false => rfl
     | true =>
      dsimp only
      cases hv : ρ x <;> try rfl
      ·rename_i id off; simp only [Hl, ptr x (by simp [Op.operands]) id off hv]
      ·rename_i id i s; simp only [CH, ept x (by simp [Op.operands]) id i s hv]
   | _ => rfl
 | lookup T a b ok =>
  have hb := fun t => Bf t (ρ b) (tm b (by simp [Op.operands]))
  simp only [evalOp]
  cases hu : P.underlying T with
  | none => rfl
  | some d => cases d with
   | map kt vt =>
    cases hv : ρ a <;> try rfl
    rename_i id
    dsimp only
    rw [mpp a (by simp [Op.operands]) id hv]
    simp only [hb]
   | _ => rfl
 | mapUpdate T a b c =>
  have hb := fun t => Bf t (ρ b) (tm b (by simp [Op.operands]))
  have hc := fun t => Bf t (ρ c) (tm c (by simp [Op.operands]))
  simp only [evalOp]
  cases hu : P.underlying T with
  | none => rfl
  | some d => cases d with
   | map kt vt =>
    cases hv : ρ a <;> try rfl
    rename_i id
    dsimp only
    rw [mpp a (by simp [Op.operands]) id hv]
    simp only [hb, hc]
   | _ => rfl
 | mapEntry T a b =>
  have hb := fun t => Bf t (ρ b) (tm b (by simp [Op.operands]))
  simp only [evalOp]
  cases hu : P.underlying T with
  | none => rfl
  | some d => cases d with
   | map kt vt =>
    cases hv : ρ a <;> try rfl
    rename_i id
    dsimp only
    rw [mpp a (by simp [Op.operands]) id hv]
    simp only [hb]
   | _ => rfl
 | entryStore T a b c =>
  have hc := fun t => Bf t (ρ c) (tm c (by simp [Op.operands]))
  simp only [evalOp]
  cases hv : ρ a <;> try rfl
  rename_i id
  cases hs : ρ b <;> try rfl
  rename_i t d
  cases t <;> try rfl
  rename_i j
  cases j <;> try rfl
  dsimp only
  rw [mpp a (by simp [Op.operands]) id hv]
  simp only [hc]
 | insert T a b c =>
  have hb := fun t => Bf t (ρ b) (tm b (by simp [Op.operands]))
  have hc := fun t => Bf t (ρ c) (tm c (by simp [Op.operands]))
  simp only [evalOp]
  cases hu : P.underlying T with
  | none => rfl
  | some d => cases d with
   | map kt vt =>
    cases hv : ρ a <;> try rfl
    rename_i id
    dsimp only
    rw [mpp a (by simp [Op.operands]) id hv]
    simp only [hb, hc]
   | _ => rfl
 | convert S T x =>
  have hx := fun t => Bf t (ρ x) (tm x (by simp [Op.operands]))
  simp only [evalOp]
  split
  ·rfl
  ·simp only [hx]
 | call c =>
  obtain ⟨callee, args, ts⟩ := c
  cases callee with
  | value f =>
   simp only [evalOp]
   cases hf : ρ f <;> try rfl
   ·rename_i g caps
    dsimp only
    refine hL.1 g (by simpa [Fe, hf] using hl) R _ H H' fz fz' slot k ⟨fun id hid => ha.heap id ?_, ha.slotH, ha.slotF, ha.len, fun id hid => by cases hid⟩
    rw [DI, List.mem_append] at hid
    rcases hid with hid | hid
    ·have key : ∀ l : List Operand, id ∈ BC (l.map ρ) → ∃ x ∈ l, id ∈ Az (ρ x) := by
      intro l
      induction l with
      | nil => intro h; simp [BC] at h
      | cons y l ih =>
       intro h
       simp only [List.map_cons, BC, List.mem_append] at h
       rcases h with h | h
       ·exact ⟨y, by simp, h⟩
       ·obtain ⟨x, h1, h2⟩ := ih h
        exact ⟨x, by simp [h1], h2⟩
     obtain ⟨x, h1, h2⟩ := key _ hid
     exact Gt (x := x) (by simp [Op.operands, Call.operands]; right; simpa using h1) h2
    ·exact Gt (x := f) (by simp [Op.operands, Call.operands]) (by rw [hf]; simpa [Az] using hid)
   ·rename_i g caps
    dsimp only
    refine hL.1 g (by simpa [Fe, hf] using hl) R _ H H' fz fz' slot k ⟨fun id hid => ha.heap id ?_, ha.slotH, ha.slotF, ha.len, fun id hid => by cases hid⟩
    rw [DI, List.mem_append] at hid
    rcases hid.symm with hid | hid
    ·have key : ∀ l : List Operand, id ∈ BC (l.map ρ) → ∃ x ∈ l, id ∈ Az (ρ x) := by
      intro l
      induction l with
      | nil => intro h; simp [BC] at h
      | cons y l ih =>
       intro h
       simp only [List.map_cons, BC, List.mem_append] at h
       rcases h with h | h
       ·exact ⟨y, by simp, h⟩
       ·obtain ⟨x, h1, h2⟩ := ih h
        exact ⟨x, by simp [h1], h2⟩
     obtain ⟨x, h1, h2⟩ := key _ hid
     exact Gt (x := x) (by simp [Op.operands, Call.operands]; right; simpa using h1) h2
    ·exact Gt (x := f) (by simp [Op.operands, Call.operands]) (by rw [hf]; simpa [Az] using hid)
  | invoke r n => rfl
  | builtin b =>
   have ops : ∀ x ∈ args.toList, x ∈ Op.operands (.call { callee := .builtin b, args := args, argTypes := ts }) := fun x hx => by simp [Op.operands, Call.operands]; simpa using hx
   cases b with
   | len =>
    simp only [evalOp]
    cases h1 : args.toList with
    | nil => rfl
    | cons x r => cases r with
     | cons y r => rfl
     | nil =>
      have hx := ops x (by rw [h1]; simp)
      cases ts.toList with
      | nil => rfl
      | cons T r => cases r with
       | cons T' r => rfl
       | nil =>
        dsimp only
        cases hu : P.underlying T with
        | none => rfl
        | some d =>
         cases d with
         | slice e =>
          dsimp only
          cases hv : ρ x with
          | data t d => cases t <;> rfl
          | own id => dsimp only; rw [own x hx id hv]
          | win id off n => simp only [CH, win x hx id off n hv]
          | _ => rfl
         | map a b =>
          dsimp only
          cases hv : ρ x with
          | mp id => dsimp only; rw [mpp x hx id hv]
          | _ => rfl
         | _ => rfl
   | append =>
    simp only [evalOp]
    cases h1 : args.toList with
    | nil => rfl
    | cons s r => cases r with
     | nil => rfl
     | cons x r => cases r with
      | cons z r => rfl
      | nil =>
       have hs := ops s (by rw [h1]; simp)
       have hx := ops x (by rw [h1]; simp)
       have hfree := CF ha (s := slot) (Nat.le_refl _) (by simp [slotsOf])
       cases ts.toList with
       | nil => rfl
       | cons T r => cases r with
        | nil => rfl
        | cons T' r => cases r with
         | cons T'' r => rfl
         | nil =>
          dsimp only
          cases sliceAt P T with
          | none =>
           cases decide (T = T') with
           | false => rfl
           | true =>
            dsimp only
            cases cellAt P T with
            | none => rfl
            | some e =>
             cases hvx : ρ x <;> try rfl
             rename_i ix
             dsimp only
             rw [own x hx ix hvx]
             cases hvs : ρ s with
             | own id => simp only [hfree, own s hs id hvs]
             | _ => simp only [hfree]
          | some p =>
           obtain ⟨e, t⟩ := p
           cases decide (T = T') with
           | false =>
            dsimp only
            cases ρ s <;> try rfl
            cases ρ x with
            | data tx d =>
             cases tx with
             | int kx =>
              simp only [hfree]
             | _ => rfl
            | _ => rfl
           | true =>
            dsimp only
            rw [Bf (.slice t) (ρ x) (tm x hx)]
            cases FP H' (.slice t) (ρ x) with
            | none => rfl
            | some q =>
             obtain ⟨ys, fr⟩ := q
             cases zeroAt P e with
             | none => rfl
             | some zz =>
              cases (P.info? e).map (fun i => decide (i.bytes ≤ 1024)) with
              | none => rfl
              | some bb => cases bb with
               | false => rfl
               | true =>
                dsimp only
                cases hv : ρ s <;> try rfl
                ·simp only [hfree]
                ·rename_i id
                 have hun : Ay fz id = Ay fz' id := Ct ha (by simp [ET, h1, hv, Az]) []
                 dsimp only
                 rw [own s hs id hv]
                 simp only [hfree, hun]
                ·rename_i id off n
                 have hun : Ay fz id = Ay fz' id := Ct ha (by simp [ET, h1, hv, Az]) []
                 cases off with
                 | succ off => rfl
                 | zero => simp only [win s hs id 0 n hv, hfree, hun]
   | clear =>
    simp only [evalOp]
    cases h1 : args.toList with
    | nil => rfl
    | cons x r => cases r with
     | cons z r => rfl
     | nil =>
      have hx := ops x (by rw [h1]; simp)
      cases ts.toList with
      | nil => rfl
      | cons T r => cases r with
       | cons T' r => rfl
       | nil =>
        dsimp only
        cases sliceAt P T with
        | none => rfl
        | some p =>
         obtain ⟨e, t⟩ := p
         dsimp only
         cases zeroAt P e with
         | none => rfl
         | some zz =>
          dsimp only
          cases hv : ρ x <;> try rfl
          ·rename_i id
           have hun : Ay fz id = Ay fz' id := Ct ha (by simp [ET, h1, hv, Az]) []
           dsimp only
           rw [own x hx id hv]
           simp only [hun]
          ·rename_i id off n
           have hun : Ay fz id = Ay fz' id := Ct ha (by simp [ET, h1, hv, Az]) []
           simp only [win x hx id off n hv, hun]
   | _ => rfl
 | makeFunc fn first cs => cases fn <;> rfl
 | _ => rfl
theorem AHM {R : Type} (hL : H6 E) {ρ : Operand → AV} (o : Op) (ty : TypeId) {H H' : List Ob} {fz fz' : List Bool} {slot : Nat} (k : AV → Eff → Option R)
  (ha : QO (J7 ρ o) slot (slotsOf o) (ET ρ o) H H' fz fz') (hl : Fe E ρ o = true) : evalOp P E R o ty ρ H fz slot k = evalOp P E R o ty ρ H' fz' slot k := by
 cases o with
 | move x => rfl
 | assign x => rfl
 | pick c a b => rfl
 | extract x i => rfl
 | build T ps => rfl
 | makeFunc f a b => cases f <;> rfl
 | store T x y =>
  by_cases hp : ∃ id off, ρ x = .ptr id off
  ·obtain ⟨id, off, hx⟩ := hp
   have hid := ha.heap id (by simp only [J7, hx]; simp)
   simp only [evalOp, hx, hid]
  ·have e : J7 ρ (.store T x y) = F9 ρ (.store T x y) := by
    simp only [J7]
    split
    ·rename_i id off hx; exact absurd ⟨id, off, hx⟩ hp
    ·rfl
   rw [e] at ha
   exact Md hL (.store T x y) ty k ha hl
 | _ => exact Md hL _ ty k ha hl
theorem AC1 {l : List AV} {id : Nat} (h : id ∈ BC l) : ∃ v ∈ l, id ∈ Az v := by
 induction l with
 | nil => simp [BC] at h
 | cons a l ih =>
  simp only [BC, List.mem_append] at h
  rcases h with h | h
  ·exact ⟨a, by simp, h⟩
  ·obtain ⟨v, hv, hi⟩ := ih h; exact ⟨v, by simp [hv], hi⟩
theorem B4 {l : List AV} {v : AV} {id : Nat} (hv : v ∈ l) (h : id ∈ Az v) : id ∈ BC l := by
 induction l with
 | nil => cases hv
 | cons a l ih =>
  simp only [BC, List.mem_append]
  rcases List.mem_cons.1 hv with rfl | hv
  ·exact .inl h
  ·exact .inr (ih hv)
theorem AL4 {R : Type} (hL : H6 E) {ρ : Operand → AV} {φ : List Nat} (o : Op) (ty : TypeId) {H H' : List Ob} {fz fz' : List Bool} {slot : Nat} (k : AV → Eff → Option R) (hw : J4 E ρ o φ H = true)
  (ha : QO (φ.map (· / 2)) slot (slotsOf o) (φ.map (· / 2)) H H' fz fz') : evalOp P E R o ty ρ H fz slot k = evalOp P E R o ty ρ H' fz' slot k := by
 unfold J4 at hw
 simp only [Bool.and_eq_true] at hw
 obtain ⟨⟨⟨h1, h2⟩, h3⟩, h4⟩ := hw
 unfold Rq at h4
 split at h4
 ·rename_i f args ts
  split at h4
  ·rename_i g caps hf
   simp only [evalOp, hf]
   have wtS : ∀ {i : Nat}, wt φ i = true → i ∈ φ.map (· / 2) := by
    intro i hi
    unfold wt at hi
    simp only [List.contains_eq_mem, decide_eq_true_eq] at hi
    exact List.mem_map.2 ⟨_, hi, by omega⟩
   refine hL.2 g h4 R _ H H' fz fz' slot k (φ.map (· / 2)) (fun id hid => ?_) (fun id hid cs hc j hj => ?_) ⟨ha.heap, ha.slotH, ha.slotF, ha.len, ha.wrF⟩
   ·rw [List.all_eq_true] at h1
    refine wtS (h1 id ?_)
    unfold F9
    rw [List.mem_flatMap]
    obtain ⟨v, hv, hi⟩ := AC1 hid
    rcases List.mem_append.1 hv with hv | hv
    ·obtain ⟨x, hx, rfl⟩ := List.mem_map.1 hv
     exact ⟨x, by simp [Op.operands, Call.operands]; right; simpa using hx, hi⟩
    ·exact ⟨f, by simp [Op.operands, Call.operands], by rw [hf]; simp only [Az]; exact B4 hv hi⟩
   ·unfold L6 at h2
    rw [List.all_eq_true] at h2
    obtain ⟨c, hcφ, rfl⟩ := List.mem_map.1 hid
    have := h2 c hcφ
    rw [hc] at this
    simp only [List.all_eq_true] at this
    exact wtS (this j hj)
  ·rename_i g caps hf
   simp only [evalOp, hf]
   have wtS : ∀ {i : Nat}, wt φ i = true → i ∈ φ.map (· / 2) := by
    intro i hi
    unfold wt at hi
    simp only [List.contains_eq_mem, decide_eq_true_eq] at hi
    exact List.mem_map.2 ⟨_, hi, by omega⟩
   refine hL.2 g h4 R _ H H' fz fz' slot k (φ.map (· / 2)) (fun id hid => ?_) (fun id hid cs hc j hj => ?_) ⟨ha.heap, ha.slotH, ha.slotF, ha.len, ha.wrF⟩
   ·rw [List.all_eq_true] at h1
    refine wtS (h1 id ?_)
    unfold F9
    rw [List.mem_flatMap]
    obtain ⟨v, hv, hi⟩ := AC1 hid
    rcases (List.mem_append.1 hv).symm with hv | hv
    ·obtain ⟨x, hx, rfl⟩ := List.mem_map.1 hv
     exact ⟨x, by simp [Op.operands, Call.operands]; right; simpa using hx, hi⟩
    ·exact ⟨f, by simp [Op.operands, Call.operands], by rw [hf]; simp only [Az]; exact B4 hv hi⟩
   ·unfold L6 at h2
    rw [List.all_eq_true] at h2
    obtain ⟨c, hcφ, rfl⟩ := List.mem_map.1 hid
    have := h2 c hcφ
    rw [hc] at this
    simp only [List.all_eq_true] at this
    exact wtS (this j hj)
  ·cases h4
 ·cases h4
end
end Go.Pev
end
section
namespace Go.Pev
open Go.RowKit
section
variable {P : Program} {E : Env}
def Bu (all : List Oper) (g : Option (Nat × Bool)) (st : St) : Option Bool :=
 match g with
 | none => some true
 | some (j, want) => match (all[j]?).bind (·.dst) with
  | none => none
  | some d => match st.tmps[d]? with
   | some (.data .bool b) => some (b == want)
   | some (.tup []) => some false
   | _ => none
theorem AFB {l : List AV} {d : Nat} {v : AV} (h : l[d]? = some v) : l.set d v = l := by
 apply List.ext_getElem?
 intro i
 by_cases hid : i = d
 ·subst hid
  rw [h, List.getElem?_set_self (by
   rcases Nat.lt_or_ge i l.length with h' | h'
   ·exact h'
   ·rw [List.getElem?_eq_none h'] at h; cases h)]
 ·rw [List.getElem?_set_ne (Ne.symm hid)]
theorem AG9 {R : Type} {all : List Oper} {g : Option (Nat × Bool)} {st : St} {yes no : St → Option R} {r : R} (h : guarded R all g st yes no = some r) :
  (Bu all g st = some true ∧ yes st = some r) ∨ (Bu all g st = some false ∧ no st = some r) := by
 unfold guarded at h
 unfold Bu
 split at h
 ·exact .inl ⟨rfl, h⟩
 ·rename_i j want
  split at h
  ·cases h
  ·rename_i d hj
   simp only [hj]
   split at h
   ·rename_i b hd
    have hs := AFB hd
    simp only [hd]
    split at h
    ·rw [hs] at h
     split at h
     ·exact .inl ⟨rfl, h⟩
     ·exact .inr ⟨rfl, h⟩
    ·rw [hs] at h
     split at h
     ·exact .inr ⟨rfl, h⟩
     ·exact .inl ⟨rfl, h⟩
   ·rename_i hd
    simp only [hd]
    exact .inr ⟨by first | rfl | trivial, h⟩
   ·cases h
def Kn (E : Env) (H : List Ob) (ρ : Operand → AV) (o : Op) (φ : List Nat) : Prop := (VC φ = true ∧ J4 E ρ o φ H = true) ∨ (within (J7 ρ o) φ = true ∧ N7 (ET ρ o) φ = true ∧ Fe E ρ o = true)
def CA (P : Program) (E : Env) (all : List Oper) (o : Oper) (φ : List Nat) (slot : Nat) (st st1 : St) : Prop :=
 (Bu all o.guard st = some true ∧ ∃ v e, (Ms φ = true ∨ (Kn E st.heap (BG st.tmps) o.op φ ∧ ADq (writer o.op || VC φ) φ slot (slotsOf o.op) e = true)) ∧
  (∀ (R : Type) (k : AV → Eff → Option R), evalOp P E R o.op o.type (BG st.tmps) st.heap st.frz slot k = k v e) ∧ st1 = (st.app e).put o.dst v) ∨
 (Bu all o.guard st = some false ∧ st1 = st.put o.dst BF)
theorem ANO (hE : ∀ g, AQ P g (E.spec g)) {R : Type} {all : List Oper} {o : Oper} {φ : List Nat} {slot : Nat} {st : St} {k : St → Option R} {r : R} (h : TM P E R all o φ slot st k = some r) :
  ∃ st1, CA P E all o φ slot st st1 ∧ k st1 = some r := by
 unfold TM at h
 rcases AG9 h with ⟨hg, h⟩ | ⟨hg, h⟩
 ·split at h
  ·rename_i hw
   simp only [Bool.or_eq_true, Bool.and_eq_true] at hw
   obtain ⟨v, e, h1, h2, _⟩ := Ik hE o.op R _ _ _ _ _ _ _ h
   split at h1
   ·rename_i he
    rw [Bool.or_eq_true] at he
    refine ⟨_, .inl ⟨hg, v, e, ?_, h2, rfl⟩, h1⟩
    rcases hw with hw | hw
    ·exact .inl hw
    ·rcases he with he | he
     ·exact .inl he
     ·refine .inr ⟨?_, he⟩
      rcases hw with hw | hw
      ·exact .inl hw
      ·exact .inr ⟨hw.2.1.1, hw.2.1.2, hw.2.2⟩
   ·cases h1
  ·cases h
 ·exact ⟨_, .inr ⟨hg, rfl⟩, h⟩
def AEG (P : Program) (E : Env) (all : List Oper) (fp : Nat → List Nat) (sl : Nat → Nat) : List Nat → St → St → Prop
 | [], st, st' => st = st'
 | i :: l, st, st' => ∃ o s1, all[i]? = some o ∧ CA P E all o (fp i) (sl i) st s1 ∧ AEG P E all fp sl l s1 st'
def Bq (all : List Oper) (base i : Nat) : Nat := base + Ea (all.take i)
theorem JG (a b : List Oper) : Ea (a ++ b) = Ea a + Ea b := by
 unfold Ea
 induction a with
 | nil => simp
 | cons x a ih => simp only [List.cons_append, List.map_cons, List.foldr_cons, ih]; omega
theorem ABW (hE : ∀ g, AQ P g (E.spec g)) {R : Type} {all : List Oper} {fp : List (List Nat)} {base : Nat} {k : St → Option R} {r : R} : ∀ (rest pre : List Oper) (fp' : List (List Nat)) (slot : Nat) (st : St),
  all = pre ++ rest → fp' = fp.drop pre.length → slot = Bq all base pre.length → Hi P E R all rest fp' slot st k = some r →
  ∃ st', AEG P E all (fun i => fp.getD i []) (Bq all base) (List.range' pre.length rest.length) st st' ∧ k st' = some r := by
 intro rest
 induction rest with
 | nil => intro pre fp' slot st _ _ _ h; exact ⟨st, rfl, h⟩
 | cons o rest ih =>
  intro pre fp' slot st hall hfp hsl h
  simp only [Hi] at h
  obtain ⟨s1, h1, h2⟩ := ANO hE h
  have hlen : (pre ++ [o]).length = pre.length + 1 := by simp
  have hfp1 : fp'.headD [] = fp.getD pre.length [] := by
   rw [hfp, List.getD_eq_getElem?_getD, List.headD_eq_head?_getD, List.head?_drop]
  have hfp2 : fp'.tail = fp.drop (pre ++ [o]).length := by rw [hfp, hlen, List.tail_drop]
  have hs2 : slot + slotsOf o.op = Bq all base (pre ++ [o]).length := by
   rw [hsl, hlen]
   unfold Bq
   have e1 : all.take (pre.length + 1) = pre ++ [o] := by rw [hall, List.take_append, List.take_of_length_le (by omega)]; simp
   have e2 : all.take pre.length = pre := by rw [hall]; simp
   rw [e1, e2, JG]
   simp [Ea]; omega
  obtain ⟨st', h3, h4⟩ := ih (pre ++ [o]) _ _ s1 (by rw [hall]; simp) hfp2 hs2 h2
  refine ⟨st', ?_, h4⟩
  rw [List.length_cons, List.range'_succ]
  refine ⟨o, s1, by rw [hall]; simp, ?_, by rw [hlen] at h3; exact h3⟩
  show CA P E all o (fp.getD pre.length []) (Bq all base pre.length) st s1
  rw [← hfp1, ← hsl]; exact h1
theorem AJF : ∀ (l : List (Nat × Ob)) (H : List Ob), (BI l H).length = H.length := by
 intro l
 induction l with
 | nil => intro H; rfl
 | cons p l ih => intro H; obtain ⟨i, o⟩ := p; simp only [BI]; rw [ih, List.length_set]
theorem BU {i : Nat} : ∀ (l : List (Nat × Ob)) (H : List Ob), (∀ p ∈ l, p.1 ≠ i) → (BI l H)[i]? = H[i]? := by
 intro l
 induction l with
 | nil => intro H _; rfl
 | cons p l ih =>
  intro H h
  obtain ⟨j, o⟩ := p
  simp only [BI]
  rw [ih _ fun p hp => h p (by simp [hp]), A0 (Ne.symm (h (j, o) (by simp)))]
theorem MX {i : Nat} : ∀ (l : List (Nat × Ob)) (H H' : List Ob), H[i]? = H'[i]? → (BI l H)[i]? = (BI l H')[i]? := by
 intro l
 induction l with
 | nil => intro H H' h; exact h
 | cons p l ih =>
  intro H H' h
  obtain ⟨j, o⟩ := p
  simp only [BI]
  refine ih _ _ ?_
  by_cases hij : i = j
  ·subst hij
   rw [List.getElem?_set_self', List.getElem?_set_self', h]
  ·rw [A0 hij, A0 hij]; exact h
theorem AFC (a b : List (Nat × Ob)) (h : ∀ p ∈ a, ∀ q ∈ b, p.1 ≠ q.1) (H : List Ob) : BI a (BI b H) = BI b (BI a H) := by
 apply List.ext_getElem?
 intro i
 by_cases ha : ∀ p ∈ a, p.1 ≠ i
 ·rw [BU a _ ha]
  exact MX b _ _ (BU a _ ha).symm
 ·have hb : ∀ q ∈ b, q.1 ≠ i := by
   intro q hq hqi
   refine ha fun p hp hpi => h p hp q hq (by rw [hpi, hqi])
  rw [BU b _ hb]
  exact MX a _ _ (BU b _ hb)
theorem AJG (a b : List Nat) (fz : List Bool) : Ak a (Ak b fz) = Ak b (Ak a fz) := by
 apply List.ext_getElem?
 intro i
 have hl : ∀ (x : List Bool) (y : List Bool), x.length = y.length → (∀ i, x.getD i false = y.getD i false) → x[i]? = y[i]? := by
  intro x y hlen hg
  have := hg i
  rw [List.getD_eq_getElem?_getD, List.getD_eq_getElem?_getD] at this
  rcases Nat.lt_or_ge i x.length with h | h
  ·rw [List.getElem?_eq_getElem h, List.getElem?_eq_getElem (hlen ▸ h)] at this ⊢
   simpa using this
  ·rw [List.getElem?_eq_none h, List.getElem?_eq_none (hlen ▸ h)]
 refine hl _ _ (by simp [CQ]) fun i => ?_
 rw [A1, A1, A1, A1, CQ, CQ]
 cases fz.getD i false <;> cases decide (i ∈ a) <;> cases decide (i ∈ b) <;> cases decide (i < fz.length) <;> rfl
theorem WO {l φ : List Nat} (h : within l φ = true) {i : Nat} (hi : i ∈ l) : rd φ i = true := by
 unfold within at h
 rw [List.all_eq_true] at h
 exact h i hi
theorem AIR {l φ : List Nat} (h : N7 l φ = true) {i : Nat} (hi : i ∈ l) : wt φ i = true := by
 unfold N7 at h
 rw [List.all_eq_true] at h
 exact h i hi
theorem IS {φ : List Nat} {i : Nat} (h : wt φ i = true) : rd φ i = true := by
 unfold wt at h; unfold rd; rw [h]; simp
theorem JU {wr : Bool} {φ : List Nat} {slot n : Nat} {e : Eff} (h : ADq wr φ slot n e = true) : e.heap = none ∧ (∀ p ∈ e.objs, (slot ≤ p.1 ∧ p.1 < slot + n) ∨ (wr = true ∧ wt φ p.1 = true)) ∧ ∀ i ∈ e.frz, rd φ i = true := by
 unfold ADq at h
 simp only [Bool.and_eq_true] at h
 obtain ⟨⟨h1, h2⟩, h3⟩ := h
 refine ⟨by simpa using h1, fun p hp => ?_, fun i hi => WO h3 hi⟩
 rw [List.all_eq_true] at h2
 have := h2 p hp
 simp only [Bool.or_eq_true, Bool.and_eq_true, decide_eq_true_eq] at this
 rcases this with h | h
 ·exact .inl h
 ·exact .inr h
theorem FT {e : Eff} (h : e.heap = none) (H : List Ob) : D7 e H = BI e.objs H := by unfold D7; rw [h]
theorem Gk {e : Eff} (h : e.heap = none) (F : List Bool) : Ja e F = Ak e.frz F := by unfold Ja; rw [h]
theorem Bo {all : List Oper} {x y : Oper} (hap : apart? all x y = true) (st : St) (v : AV) : ∀ z ∈ y.op.operands, BG (st.put x.dst v).tmps z = BG st.tmps z := by
 obtain ⟨h1, _, _⟩ := Oper.apart_spec hap
 intro z hz
 cases hd : x.dst with
 | none => rfl
 | some d =>
  cases z with
  | tmp t =>
   have hne : d ≠ t := by
    rintro rfl
    refine h1 d hd ?_
    unfold Oper.looksAt
    refine List.mem_append_left _ ?_
    rw [List.mem_filterMap]
    exact ⟨.tmp d, by simpa using hz, rfl⟩
   simp [BG, St.put, List.getElem?_set_ne hne]
  | const v => rfl
  | global g => rfl
  | func f => rfl
theorem Fy {all : List Oper} {x y : Oper} (hap : apart? all x y = true) (st : St) (v : AV) (H : List Ob) (F : List Bool) : Bu all y.guard ({ st with heap := H, frz := F }.put x.dst v) = Bu all y.guard st := by
 obtain ⟨h1, _, _⟩ := Oper.apart_spec hap
 unfold Bu
 cases hg : y.guard with
 | none => rfl
 | some p =>
  obtain ⟨j, want⟩ := p
  dsimp only
  cases hj : (all[j]?).bind (·.dst) with
  | none => rfl
  | some d =>
   dsimp only
   cases hd : x.dst with
   | none => rfl
   | some d' =>
    have hne : d' ≠ d := by
     rintro rfl
     refine h1 d' hd ?_
     unfold Oper.looksAt
     refine List.mem_append_right _ ?_
     simp [hg]
     exact hj
    simp [St.put, List.getElem?_set_ne hne]
theorem St.put_comm (st : St) {x y : Option Tmp} (v u : AV) (h : ∀ d, x = some d → y ≠ some d) : (st.put x v).put y u = (st.put y u).put x v := by
 cases x with
 | none => rfl
 | some d =>
  cases y with
  | none => rfl
  | some d' =>
   have hne : d ≠ d' := fun e => h d rfl (e ▸ rfl)
   simp only [St.put]
   rw [List.set_comm _ _ hne]
theorem St.JZ (st : St) (e : Eff) (d : Option Tmp) (v : AV) : (st.put d v).app e = (st.app e).put d v := by cases d <;> rfl
theorem AXP {φ : List Nat} {i : Nat} (h : rd φ i = true) : ∃ c ∈ φ, c / 2 = i := by
 unfold rd at h
 simp only [Bool.or_eq_true, List.contains_eq_mem, decide_eq_true_eq] at h
 rcases h with h | h
 ·exact ⟨_, h, by omega⟩
 ·exact ⟨_, h, by omega⟩
theorem ALV {all : List Oper} {x y : Oper} {φx φy : List Nat} {sx sy : Nat} (h : indep all x y φx φy sx sy = true) :
  apart? all x y = true ∧ ((VC φx = false ∧ VC φy = false ∧ Vu x.op y.op = true) ∨ (Ms φx = true ∧ Bc y.op = true) ∨ (Ms φy = true ∧ Bc x.op = true) ∨ Ms φx = false ∧ Ms φy = false ∧ (∀ i, rd φy i = true → ¬ (sx ≤ i ∧ i < sx + slotsOf x.op)) ∧ (∀ i, rd φx i = true → ¬ (sy ≤ i ∧ i < sy + slotsOf y.op)) ∧ (∀ i, wt φx i = true → rd φy i = true → False) ∧ (∀ i, wt φy i = true → rd φx i = true → False)) := by
 unfold indep at h
 rw [Bool.and_eq_true] at h
 obtain ⟨h1, h⟩ := h
 refine ⟨h1, ?_⟩
 simp only [Bool.or_eq_true, Bool.and_eq_true, Bool.not_eq_true'] at h
 rcases h with ((h | h) | h) | h
 ·exact .inr (.inl h)
 ·exact .inr (.inr (.inl h))
 rotate_left
 ·exact .inl ⟨h.1, h.2.1, h.2.2⟩
 obtain ⟨⟨⟨⟨⟨hx, hy⟩, h2⟩, h3⟩, h4⟩, h5⟩ := h
 refine .inr (.inr (.inr ⟨hx, hy, ?_⟩))
 rw [List.all_eq_true] at h2 h3 h4 h5
 have own : ∀ {φ : List Nat} {s n : Nat}, (∀ c ∈ φ, (!(decide (s ≤ c / 2) && decide (c / 2 < s + n))) = true) → ∀ i, rd φ i = true → ¬ (s ≤ i ∧ i < s + n) := by
  intro φ s n h i hi
  obtain ⟨c, hc, rfl⟩ := AXP hi
  have := h c hc
  simp at this
  omega
 have wr : ∀ {φ ψ : List Nat}, (∀ c ∈ φ, (decide (c % 2 = 0) || !(rd ψ (c / 2))) = true) → ∀ i, wt φ i = true → rd ψ i = true → False := by
  intro φ ψ h i hi hr
  unfold wt at hi
  simp only [List.contains_eq_mem, decide_eq_true_eq] at hi
  have := h _ hi
  have e1 : (2 * i + 1) % 2 = 1 := by omega
  have e2 : (2 * i + 1) / 2 = i := by omega
  rw [e1, e2, hr] at this
  simp at this
 exact ⟨own h2, own h3, wr h4, wr h5⟩
theorem Jb {all : List Oper} {x y : Oper} (h : apart? all x y = true) : apart? all y x = true := by
 obtain ⟨h1, h2, h3⟩ := Oper.apart_spec h
 unfold apart? Oper.apart
 rw [Bool.and_eq_true]
 constructor
 ·cases hy : y.dst with
  | none => rfl
  | some d =>
   have a := h3 d hy
   have b : x.dst ≠ some d := fun e => h2 d e hy
   simp [a, b]
 ·cases hx : x.dst with
  | none => rfl
  | some d => simpa using h1 d hx
theorem ACC {φ : List Nat} {H H' : List Ob} (h : ∀ i, rd φ i = true → H[i]? = H'[i]?) : L6 φ H = L6 φ H' := by
 unfold L6
 rw [Bool.eq_iff_iff, List.all_eq_true, List.all_eq_true]
 have e : ∀ c ∈ φ, H[c / 2]? = H'[c / 2]? := by
  intro c hc
  refine h _ ?_
  unfold rd
  simp only [Bool.or_eq_true, List.contains_eq_mem, decide_eq_true_eq]
  rcases Nat.mod_two_eq_zero_or_one c with h' | h'
  ·left; rw [show 2 * (c / 2) = c from by omega]; exact hc
  ·right; rw [show 2 * (c / 2) + 1 = c from by omega]; exact hc
 constructor <;> intro hh c hc
 ·rw [← e c hc]; exact hh c hc
 ·rw [e c hc]; exact hh c hc
theorem AH5 {ρ : Operand → AV} {o : Op} {φ : List Nat} {H H' : List Ob} (h : ∀ i, rd φ i = true → H[i]? = H'[i]?) (hk : Kn E H ρ o φ) : Kn E H' ρ o φ := by
 rcases hk with ⟨h1, h2⟩ | hk
 ·refine .inl ⟨h1, ?_⟩
  unfold J4 at *
  rw [← ACC h]; exact h2
 ·exact .inr hk
theorem ADf {x : Oper} {φx φy : List Nat} {sx : Nat} (h1 : ∀ i, rd φy i = true → ¬ (sx ≤ i ∧ i < sx + slotsOf x.op)) (h3 : ∀ i, wt φx i = true → rd φy i = true → False) {st : St} {vx : AV} {ex : Eff} {bx : Bool} (hex : ADq bx φx sx (slotsOf x.op) ex = true) :
  ∀ i, rd φy i = true → ((st.app ex).put x.dst vx).heap[i]? = st.heap[i]? := by
 intro i hi
 obtain ⟨q1, q2, q3⟩ := JU hex
 have hheap : ((st.app ex).put x.dst vx).heap = BI ex.objs st.heap := by cases x.dst <;> exact FT q1 _
 rw [hheap]
 refine BU _ _ fun p hp => ?_
 rintro rfl
 rcases q2 p hp with h | ⟨_, h⟩
 ·exact h1 _ hi h
 ·exact h3 _ h hi
theorem ACk (hL : H6 E) {all : List Oper} {x y : Oper} {φx φy : List Nat} {sx sy : Nat} (hap : apart? all x y = true) (h1 : ∀ i, rd φy i = true → ¬ (sx ≤ i ∧ i < sx + slotsOf x.op))
  (h2 : ∀ i, rd φx i = true → ¬ (sy ≤ i ∧ i < sy + slotsOf y.op)) (h3 : ∀ i, wt φx i = true → rd φy i = true → False) (h4 : ∀ i, wt φy i = true → rd φx i = true → False) (hsl : sx + slotsOf x.op ≤ sy ∨ sy + slotsOf y.op ≤ sx)
  {st : St} {vx : AV} {ex : Eff} {bx : Bool} (hex : ADq bx φx sx (slotsOf x.op) ex = true) (hk : Kn E ((st.app ex).put x.dst vx).heap (BG st.tmps) y.op φy ∨ Kn E st.heap (BG st.tmps) y.op φy) :
  ∀ (R : Type) (k : AV → Eff → Option R), evalOp P E R y.op y.type (BG ((st.app ex).put x.dst vx).tmps) ((st.app ex).put x.dst vx).heap ((st.app ex).put x.dst vx).frz sy k = evalOp P E R y.op y.type (BG st.tmps) st.heap st.frz sy k := by
 intro R k
 obtain ⟨q1, q2, q3⟩ := JU hex
 have hput : ∀ z ∈ y.op.operands, BG ((st.app ex).put x.dst vx).tmps z = BG st.tmps z := fun z hz => by
  have := Bo hap (st.app ex) vx z hz
  exact this
 have hheap : ((st.app ex).put x.dst vx).heap = BI ex.objs st.heap := by cases x.dst <;> exact FT q1 _
 have hfrz : ((st.app ex).put x.dst vx).frz = Ak ex.frz st.frz := by cases x.dst <;> exact Gk q1 _
 rw [hheap] at hk
 rw [hheap, hfrz]
 have hsame : ∀ i, rd φy i = true → (BI ex.objs st.heap)[i]? = st.heap[i]? := by
  intro i hi
  refine BU _ _ fun p hp => ?_
  rintro rfl
  rcases q2 p hp with h | ⟨_, h⟩
  ·exact h1 _ hi h
  ·exact h3 _ h hi
 have hkn : Kn E st.heap (BG st.tmps) y.op φy := hk.elim (fun h => AH5 hsame h) fun h => h
 rcases hkn with ⟨_, hw⟩ | ⟨hw, hww, hl⟩
 ·rw [Bh y.op y.type _ _ sy k hput]
  symm
  have wtS : ∀ c ∈ φy, wt φy (c / 2) = true := by
   intro c hc
   unfold J4 at hw
   simp only [Bool.and_eq_true] at hw
   have := hw.1.2
   rw [List.all_eq_true] at this
   have := this c hc
   simp only [beq_iff_eq] at this
   unfold wt
   simp only [List.contains_eq_mem, decide_eq_true_eq]
   rw [show 2 * (c / 2) + 1 = c from by omega]
   exact hc
  refine AL4 hL y.op y.type k hw ⟨fun id hid => ?_, fun s a1 a2 => ?_, fun s a1 a2 => ?_, (CQ _ _).symm, fun id hid => ?_⟩
  ·obtain ⟨c, hc, rfl⟩ := List.mem_map.1 hid
   exact (hsame _ (IS (wtS c hc))).symm
  ·symm
   refine BU _ _ fun p hp => ?_
   rintro rfl
   rcases q2 p hp with h | ⟨hwx, h⟩
   ·omega
   ·exact h2 _ (IS h) ⟨a1, a2⟩
  ·rw [A1]
   have : s ∉ ex.frz := fun h => h2 _ (q3 s h) ⟨a1, a2⟩
   simp [this]
  ·obtain ⟨c, hc, rfl⟩ := List.mem_map.1 hid
   rw [A1]
   have : c / 2 ∉ ex.frz := fun h => h4 _ (wtS c hc) (q3 _ h)
   simp [this]
 have hag : QO (J7 (BG st.tmps) y.op) sy (slotsOf y.op) (ET (BG st.tmps) y.op) (BI ex.objs st.heap) st.heap (Ak ex.frz st.frz) st.frz := by
  refine ⟨fun id hid => ?_, fun s a1 a2 => ?_, fun s a1 a2 => ?_, CQ _ _, fun id hid => ?_⟩
  ·have hφ := WO hw hid
   refine BU _ _ fun p hp => ?_
   rintro rfl
   rcases q2 p hp with h | ⟨hwx, h⟩
   ·exact h1 _ hφ h
   ·exact h3 _ h hφ
  ·refine BU _ _ fun p hp => ?_
   rintro rfl
   rcases q2 p hp with h | ⟨hwx, h⟩
   ·omega
   ·exact h2 _ (IS h) ⟨a1, a2⟩
  ·rw [A1]
   have : s ∉ ex.frz := fun h => h2 _ (q3 s h) ⟨a1, a2⟩
   simp [this]
  ·rw [A1]
   have hφ := AIR hww hid
   have : id ∉ ex.frz := fun h => h4 _ hφ (q3 id h)
   simp [this]
 rw [Bh y.op y.type _ _ sy k hput]
 exact AHM hL y.op y.type k hag hl
theorem AEb {ρ ρ' : Operand → AV} {o : Op} (h : ∀ z ∈ o.operands, ρ z = ρ' z) : ET ρ o = ET ρ' o := by
 unfold ET
 split
 ·rw [h _ (by simp [Op.operands])]
 ·rw [h _ (by simp [Op.operands])]
 ·rw [h _ (by simp [Op.operands])]
 ·rw [h _ (by simp [Op.operands])]
 ·rw [h _ (by simp [Op.operands])]
 ·rename_i args ts
  cases ha : args.toList with
  | nil => rfl
  | cons s r =>
   have : s ∈ args := by
    have : s ∈ args.toList := by rw [ha]; simp
    simpa using this
   simp only
   rw [h s (by simp [Op.operands, Call.operands]; exact this)]
 ·rename_i args ts
  cases ha : args.toList with
  | nil => rfl
  | cons s r =>
   have : s ∈ args := by
    have : s ∈ args.toList := by rw [ha]; simp
    simpa using this
   simp only
   rw [h s (by simp [Op.operands, Call.operands]; exact this)]
 ·rfl
theorem I3 {ρ ρ' : Operand → AV} {o : Op} (h : ∀ z ∈ o.operands, ρ z = ρ' z) : F9 ρ o = F9 ρ' o := by
 unfold F9
 have key : ∀ l : List Operand, (∀ z ∈ l, ρ z = ρ' z) → (l.flatMap fun x => Az (ρ x)) = l.flatMap fun x => Az (ρ' x) := by
  intro l
  induction l with
  | nil => intro _; rfl
  | cons x l ih => intro h; rw [List.flatMap_cons, List.flatMap_cons, h x (by simp), ih fun z hz => h z (by simp [hz])]
 exact key _ fun z hz => h z (by simpa using hz)
theorem AIm {ρ ρ' : Operand → AV} {o : Op} (h : ∀ z ∈ o.operands, ρ z = ρ' z) : J7 ρ o = J7 ρ' o := by
 cases o with
 | store T x y =>
  simp only [J7]
  rw [h x (by simp [Op.operands]), I3 h]
 | move x => rfl
 | assign x => rfl
 | pick c a b => rfl
 | extract x i => rfl
 | build T ps => rfl
 | makeFunc f a b => rfl
 | _ => exact I3 h
theorem ABs {ρ ρ' : Operand → AV} {o : Op} (h : ∀ z ∈ o.operands, ρ z = ρ' z) : Fe E ρ o = Fe E ρ' o := by
 unfold Fe
 split
 ·rename_i f args ts
  rw [h f (by simp [Op.operands, Call.operands])]
 ·rfl
theorem F6 {H : List Ob} {ρ ρ' : Operand → AV} {o : Op} {φ : List Nat} (h : ∀ z ∈ o.operands, ρ z = ρ' z) (hk : Kn E H ρ o φ) : Kn E H ρ' o φ := by
 rcases hk with ⟨h0, hk⟩ | ⟨h1, h2, h3⟩
 ·refine .inl ⟨h0, ?_⟩
  have e : Rq E ρ o = Rq E ρ' o := by
   unfold Rq
   split
   ·rename_i f args ts
    rw [h f (by simp [Op.operands, Call.operands])]
   ·rfl
  unfold J4 at *
  rw [← e, ← I3 h]; exact hk
 ·rw [AIm h] at h1
  rw [AEb h] at h2
  rw [ABs h] at h3
  exact .inr ⟨h1, h2, h3⟩
theorem Mb {R : Type} {o : Op} (h : Bc o = true) (ty : TypeId) (ρ : Operand → AV) (H H' : List Ob) (fz fz' : List Bool) (slot : Nat) (k : AV → Eff → Option R) :
  evalOp P E R o ty ρ H fz slot k = evalOp P E R o ty ρ H' fz' slot k := by
 cases o <;> first | rfl | (simp only [Bc, Bool.false_eq_true] at h)
theorem JP {o : Op} (h : Bc o = true) (ty : TypeId) (ρ : Operand → AV) (H : List Ob) (fz : List Bool) (slot : Nat) {v : AV} {e : Eff}
  (hk : ∀ (R : Type) (k : AV → Eff → Option R), evalOp P E R o ty ρ H fz slot k = k v e) : e = {} := by
 have := hk Eff (fun _ e => some e)
 cases o <;> first | (simp only [Bc, Bool.false_eq_true] at h; done) | skip
 all_goals
  simp only [evalOp] at this
  repeat' split at this
  all_goals first | (cases this; done) | (simp only [Option.some.injEq] at this; exact this.symm)
theorem Z8 {o : Op} (h : FK o = true) (ty : TypeId) (ρ : Operand → AV) (H : List Ob) (fz : List Bool) (slot : Nat) {v : AV} {e : Eff}
  (hk : ∀ (R : Type) (k : AV → Eff → Option R), evalOp P E R o ty ρ H fz slot k = k v e) : e = {} := by
 by_cases hh : Bc o = true
 ·exact JP hh ty ρ H fz slot hk
 have := hk Eff (fun _ e => some e)
 cases o with
 | call c =>
  obtain ⟨callee, args, ts⟩ := c
  cases callee with
  | builtin b =>
   cases b <;> first | (simp only [FK, Bc, Bool.false_eq_true] at h; done) | skip
   simp only [evalOp] at this
   repeat' split at this
   all_goals first | (cases this; done) | (simp only [Option.some.injEq] at this; exact this.symm)
  | _ => simp only [FK, Bc, Bool.false_eq_true] at h
 | slice T x lo hi mx =>
  cases mx with
  | some m => simp only [FK, Bc, Bool.false_eq_true] at h
  | none =>
   simp only [evalOp, FZ] at this
   repeat' split at this
   all_goals first | (cases this; done) | (simp only [Option.some.injEq] at this; exact this.symm)
 | makeFunc fn first cs =>
  cases fn <;> first | (simp only [FK, Bc, Bool.false_eq_true] at h; done) | skip
  simp only [evalOp] at this
  repeat' split at this
  all_goals first | (cases this; done) | (simp only [Option.some.injEq] at this; exact this.symm)
 | load _ _ | convert _ _ _ | fieldAddr _ _ _ | field _ _ _ | indexAddr _ _ _ | index _ _ _ | nilCheck _ | lookup _ _ _ _ | build _ _ =>
  simp only [evalOp] at this
  repeat' split at this
  all_goals first | (cases this; done) | (simp only [Option.some.injEq] at this; exact this.symm)
 | _ => first | exact absurd h hh | (simp only [FK, Bc, Bool.false_eq_true] at h; done) | exact absurd rfl hh
theorem ASv {H : List Ob} {ρ : Operand → AV} {o : Op} {φ : List Nat} (h : Bc o = true) (hk : Kn E H ρ o φ) : within (J7 ρ o) φ = true ∧ N7 (ET ρ o) φ = true ∧ Fe E ρ o = true := by
 rcases hk with ⟨_, hk⟩ | hk
 ·exfalso
  unfold J4 at hk
  simp only [Bool.and_eq_true] at hk
  have := hk.2
  unfold Rq at this
  split at this
  ·cases h
  ·cases this
 ·exact hk
theorem ANM {all : List Oper} {x y : Oper} {φx φy : List Nat} {sx sy : Nat} (hap : apart? all x y = true) (hn : Ms φx = true) (hl : Bc y.op = true)
  {st s1 s2 : St} (hx : CA P E all x φx sx st s1) (hy : CA P E all y φy sy s1 s2) : ∃ s1', CA P E all y φy sy st s1' ∧ CA P E all x φx sx s1' s2 := by
 have hap' := Jb hap
 obtain ⟨_, hdd, _⟩ := Oper.apart_spec hap
 have gx : ∀ (v : AV) (H : List Ob) (F : List Bool) (s : St), Bu all y.guard ({ s with heap := H, frz := F }.put x.dst v) = Bu all y.guard s := fun v H F s => Fy hap s v H F
 have gy : ∀ (v : AV) (H : List Ob) (F : List Bool) (s : St), Bu all x.guard ({ s with heap := H, frz := F }.put y.dst v) = Bu all x.guard s := fun v H F s => Fy hap' s v H F
 have first : ∀ (s1 : St), (∀ z ∈ y.op.operands, BG s1.tmps z = BG st.tmps z) → Bu all y.guard s1 = Bu all y.guard st → CA P E all y φy sy s1 s2 → ∃ vy, CA P E all y φy sy st (st.put y.dst vy) ∧ s2 = s1.put y.dst vy := by
  intro s1 hput hg hy
  rcases hy with ⟨g2, vy, ey, hqy, b3, rfl⟩ | ⟨g2, rfl⟩
  ·have he := JP hl _ _ _ _ _ b3
   subst he
   refine ⟨vy, .inl ⟨by rw [← hg]; exact g2, vy, {}, ?_, fun R k => ?_, rfl⟩, rfl⟩
   ·rcases hqy with h | ⟨h1, h4⟩
    ·exact .inl h
    ·exact .inr ⟨.inr (ASv hl (F6 hput h1)), h4⟩
   ·rw [← b3 R k, Bh y.op y.type _ _ sy k hput]
    exact Mb hl _ _ _ _ _ _ _ _
  ·exact ⟨BF, .inr ⟨by rw [← hg]; exact g2, rfl⟩, rfl⟩
 have put1 : ∀ (v : AV) (s : St), ∀ z ∈ y.op.operands, BG (s.put x.dst v).tmps z = BG s.tmps z := fun v s z hz => Bo hap s v z hz
 rcases hx with ⟨g1, vx, ex, hqx, a3, rfl⟩ | ⟨g1, rfl⟩
 ·obtain ⟨vy, h1, rfl⟩ := first _ (put1 vx (st.app ex)) (gx vx (D7 ex st.heap) (Ja ex st.frz) st) hy
  refine ⟨_, h1, .inl ⟨?_, vx, ex, .inl hn, fun R k => ?_, ?_⟩⟩
  ·rw [show Bu all x.guard (st.put y.dst vy) = Bu all x.guard st from gy vy st.heap st.frz st]; exact g1
  ·have hh : (st.put y.dst vy).heap = st.heap ∧ (st.put y.dst vy).frz = st.frz := by cases y.dst <;> exact ⟨rfl, rfl⟩
   rw [hh.1, hh.2, Bh x.op x.type _ _ sx k fun z hz => Bo hap' st vy z hz]
   exact a3 R k
  ·rw [St.JZ, St.put_comm _ vx vy hdd]
 ·obtain ⟨vy, h1, rfl⟩ := first _ (put1 BF st) (gx BF st.heap st.frz st) hy
  refine ⟨_, h1, .inr ⟨?_, ?_⟩⟩
  ·rw [show Bu all x.guard (st.put y.dst vy) = Bu all x.guard st from gy vy st.heap st.frz st]; exact g1
  ·rw [St.put_comm _ BF vy hdd]
theorem ANL {all : List Oper} {x y : Oper} {φx φy : List Nat} {sx sy : Nat} (hap : apart? all x y = true) (hn : Ms φy = true) (hl : Bc x.op = true)
  {st s1 s2 : St} (hx : CA P E all x φx sx st s1) (hy : CA P E all y φy sy s1 s2) : ∃ s1', CA P E all y φy sy st s1' ∧ CA P E all x φx sx s1' s2 := by
 have hap' := Jb hap
 obtain ⟨_, hdd, _⟩ := Oper.apart_spec hap
 have gx : ∀ (v : AV) (s : St), Bu all y.guard (s.put x.dst v) = Bu all y.guard s := fun v s => Fy hap s v s.heap s.frz
 have gy : ∀ (v : AV) (H : List Ob) (F : List Bool) (s : St), Bu all x.guard ({ s with heap := H, frz := F }.put y.dst v) = Bu all x.guard s := fun v H F s => Fy hap' s v H F
 have hh : ∀ v : AV, (st.put x.dst v).heap = st.heap ∧ (st.put x.dst v).frz = st.frz := fun v => by cases x.dst <;> exact ⟨rfl, rfl⟩
 have behind : ∀ (s : St) (vx : AV), (∀ z ∈ x.op.operands, BG s.tmps z = BG st.tmps z) → Bu all x.guard s = Bu all x.guard st → CA P E all x φx sx st (st.put x.dst vx) → (∃ v, CA P E all x φx sx st (st.put x.dst v)) := fun s vx _ _ h => ⟨vx, h⟩
 have xs : ∃ vx, s1 = st.put x.dst vx ∧ ∀ s : St, (∀ z ∈ x.op.operands, BG s.tmps z = BG st.tmps z) → Bu all x.guard s = Bu all x.guard st → CA P E all x φx sx s (s.put x.dst vx) := by
  rcases hx with ⟨g1, vx, ex, hqx, a3, rfl⟩ | ⟨g1, rfl⟩
  ·have he := JP hl _ _ _ _ _ a3
   subst he
   refine ⟨vx, rfl, fun s hput hg => .inl ⟨by rw [hg]; exact g1, vx, {}, ?_, fun R k => ?_, rfl⟩⟩
   ·rcases hqx with h | ⟨h1, h4⟩
    ·exact .inl h
    ·exact .inr ⟨.inr (ASv hl (F6 (fun z hz => (hput z hz).symm) h1)), h4⟩
   ·rw [← a3 R k, Bh x.op x.type _ _ sx k hput]
    exact Mb hl _ _ _ _ _ _ _ _
  ·exact ⟨BF, rfl, fun s _ hg => .inr ⟨by rw [hg]; exact g1, rfl⟩⟩
 obtain ⟨vx, rfl, hxs⟩ := xs
 have hput : ∀ z ∈ y.op.operands, BG (st.put x.dst vx).tmps z = BG st.tmps z := fun z hz => Bo hap st vx z hz
 rcases hy with ⟨g2, vy, ey, hqy, b3, rfl⟩ | ⟨g2, rfl⟩
 ·refine ⟨(st.app ey).put y.dst vy, .inl ⟨by rw [← gx vx st]; exact g2, vy, ey, .inl hn, fun R k => ?_, rfl⟩, ?_⟩
  ·have := b3 R k
   rw [(hh vx).1, (hh vx).2, Bh y.op y.type _ _ sy k hput] at this
   exact this
  ·have := hxs ((st.app ey).put y.dst vy) (fun z hz => Bo hap' (st.app ey) vy z hz) (gy vy (D7 ey st.heap) (Ja ey st.frz) st)
   rw [St.JZ, St.put_comm _ vx vy hdd]
   exact this
 ·refine ⟨st.put y.dst BF, .inr ⟨by rw [← gx vx st]; exact g2, rfl⟩, ?_⟩
  have := hxs (st.put y.dst BF) (fun z hz => Bo hap' st BF z hz) (gy BF st.heap st.frz st)
  rw [St.put_comm _ vx BF hdd]
  exact this
theorem ANN (hL : H6 E) {all : List Oper} {x y : Oper} {φx φy : List Nat} {sx sy : Nat} (hap : apart? all x y = true) (n1 : Ms φx = false) (n2 : Ms φy = false) (i1 : ∀ i, rd φy i = true → ¬ (sx ≤ i ∧ i < sx + slotsOf x.op)) (i2 : ∀ i, rd φx i = true → ¬ (sy ≤ i ∧ i < sy + slotsOf y.op)) (i3 : ∀ i, wt φx i = true → rd φy i = true → False) (i4 : ∀ i, wt φy i = true → rd φx i = true → False) (hsl : sx + slotsOf x.op ≤ sy)
  {st s1 s2 : St} (hx : CA P E all x φx sx st s1) (hy : CA P E all y φy sy s1 s2) : ∃ s1', CA P E all y φy sy st s1' ∧ CA P E all x φx sx s1' s2 := by
 have hap' := Jb hap
 obtain ⟨_, hdd, _⟩ := Oper.apart_spec hap
 have gx : ∀ (v : AV) (H : List Ob) (F : List Bool) (s : St), Bu all y.guard ({ s with heap := H, frz := F }.put x.dst v) = Bu all y.guard s := fun v H F s => Fy hap s v H F
 have gy : ∀ (v : AV) (H : List Ob) (F : List Bool) (s : St), Bu all x.guard ({ s with heap := H, frz := F }.put y.dst v) = Bu all x.guard s := fun v H F s => Fy hap' s v H F
 have gxa : ∀ v e, Bu all y.guard ((st.app e).put x.dst v) = Bu all y.guard st := fun v e => gx v (D7 e st.heap) (Ja e st.frz) st
 have gya : ∀ v e, Bu all x.guard ((st.app e).put y.dst v) = Bu all x.guard st := fun v e => gy v (D7 e st.heap) (Ja e st.frz) st
 rcases hx with ⟨g1, vx, ex, hqx, a3, rfl⟩ | ⟨g1, rfl⟩
 ·obtain ⟨a1, a4⟩ := hqx.resolve_left (by rw [n1]; simp)
  rcases hy with ⟨g2, vy, ey, hqy, b3, rfl⟩ | ⟨g2, rfl⟩
  ·obtain ⟨b1, b4⟩ := hqy.resolve_left (by rw [n2]; simp)
   have hput : ∀ z ∈ y.op.operands, BG ((st.app ex).put x.dst vx).tmps z = BG st.tmps z := fun z hz => Bo hap (st.app ex) vx z hz
   have b1 := F6 hput b1
   have ov := ACk (P := P) hL hap i1 i2 i3 i4 (.inl hsl) (vx := vx) a4 (.inl b1)
   refine ⟨(st.app ey).put y.dst vy, .inl ⟨by rw [← gxa vx ex]; exact g2, vy, ey, .inr ⟨AH5 (ADf i1 i3 a4) b1, b4⟩, fun R k => by rw [← ov R k]; exact b3 R k, rfl⟩, ?_⟩
   have hput' : ∀ z ∈ x.op.operands, BG ((st.app ey).put y.dst vy).tmps z = BG st.tmps z := fun z hz => Bo hap' (st.app ey) vy z hz
   have ov' := ACk (P := P) hL hap' i2 i1 i4 i3 (.inr hsl) (st := st) (vx := vy) b4 (.inr a1)
   refine .inl ⟨by rw [gya vy ey]; exact g1, vx, ex, .inr ⟨F6 (fun z hz => (hput' z hz).symm) (AH5 (fun i hi => (ADf i2 i4 b4 i hi).symm) a1), a4⟩, fun R k => by rw [ov' R k]; exact a3 R k, ?_⟩
   obtain ⟨p1, p2, p3⟩ := JU a4
   obtain ⟨r1, r2, r3⟩ := JU b4
   have hdis : ∀ p ∈ ey.objs, ∀ q ∈ ex.objs, p.1 ≠ q.1 := by
    intro p hp q hq he
    rcases r2 p hp with h | ⟨hw, h⟩ <;> rcases p2 q hq with h' | ⟨hw', h'⟩
    ·omega
    ·exact i2 _ (IS h') (he ▸ h)
    ·exact i1 _ (IS h) (he ▸ h')
    ·exact i3 _ h' (he ▸ IS h)
   rw [St.JZ, St.JZ, St.put_comm _ vx vy hdd]
   congr 2
   unfold St.app
   rw [FT p1, FT r1, Gk p1, Gk r1, FT r1, FT p1, Gk r1, Gk p1, AFC _ _ hdis, AJG]
  ·refine ⟨st.put y.dst BF, .inr ⟨by rw [← gxa vx ex]; exact g2, rfl⟩, .inl ⟨?_, vx, ex, .inr ⟨?_, a4⟩, fun R k => ?_, ?_⟩⟩
   ·rw [show Bu all x.guard (st.put y.dst BF) = Bu all x.guard st from gy BF st.heap st.frz st]; exact g1
   ·have hh : (st.put y.dst BF).heap = st.heap := by cases y.dst <;> rfl
    rw [hh]
    exact F6 (fun z hz => (Bo hap' st BF z hz).symm) a1
   ·have hh : (st.put y.dst BF).heap = st.heap ∧ (st.put y.dst BF).frz = st.frz := by cases y.dst <;> exact ⟨rfl, rfl⟩
    rw [hh.1, hh.2, Bh x.op x.type _ _ sx k fun z hz => Bo hap' st BF z hz]
    exact a3 R k
   ·rw [St.JZ, St.put_comm _ vx BF hdd]
 ·rcases hy with ⟨g2, vy, ey, hqy, b3, rfl⟩ | ⟨g2, rfl⟩
  ·obtain ⟨b1, b4⟩ := hqy.resolve_left (by rw [n2]; simp)
   have hh : (st.put x.dst BF).heap = st.heap ∧ (st.put x.dst BF).frz = st.frz := by cases x.dst <;> exact ⟨rfl, rfl⟩
   rw [hh.1] at b1
   have hput : ∀ z ∈ y.op.operands, BG (st.put x.dst BF).tmps z = BG st.tmps z := fun z hz => Bo hap st BF z hz
   have b1 := F6 hput b1
   refine ⟨(st.app ey).put y.dst vy, .inl ⟨by rw [← show Bu all y.guard (st.put x.dst BF) = Bu all y.guard st from gx BF st.heap st.frz st]; exact g2, vy, ey, .inr ⟨b1, b4⟩, fun R k => ?_, rfl⟩, .inr ⟨by rw [gya vy ey]; exact g1, ?_⟩⟩
   ·have := b3 R k
    rw [hh.1, hh.2, Bh y.op y.type _ _ sy k hput] at this
    exact this
   ·rw [St.JZ, St.put_comm _ BF vy hdd]
  ·exact ⟨st.put y.dst BF, .inr ⟨by rw [← show Bu all y.guard (st.put x.dst BF) = Bu all y.guard st from gx BF st.heap st.frz st]; exact g2, rfl⟩,
    .inr ⟨by rw [show Bu all x.guard (st.put y.dst BF) = Bu all x.guard st from gy BF st.heap st.frz st]; exact g1, St.put_comm _ BF BF hdd⟩⟩
def ASt (H H' : List Ob) (id : Nat) : Prop := (∃ a b es, H[id]? = some (.map a b es)) ∧ ∃ a b es, H'[id]? = some (.map a b es)
theorem H4 {H H' : List Ob} (h : ∀ id, H[id]? = H'[id]? ∨ ASt H H' id) (t : Ty) (v : AV) : D6 H t v = D6 H' t v := by
 cases v <;> simp only [D6]
 ·rename_i id
  rcases h id with h | ⟨⟨a, b, es, h1⟩, a', b', es', h2⟩
  ·rw [h]
  ·rw [h1, h2]
 ·rename_i id off n
  rcases h id with h | ⟨⟨a, b, es, h1⟩, a', b', es', h2⟩
  ·rw [h]
  ·rw [h1, h2]
theorem AVN {α : Type} {one one' : List AV → Option (α × List Nat × List AV)} (h1 : ∀ cs, one cs = one' cs) : ∀ (n : Nat) (cs : List AV), O4 one n cs = O4 one' n cs := by
 intro n
 induction n with
 | zero => intro cs; rfl
 | succ n ih =>
  intro cs
  simp only [O4]
  rw [← h1 cs]
  cases one cs with
  | none => rfl
  | some p => obtain ⟨x, f, r⟩ := p; simp only [ih]
theorem AGz {H H' : List Ob} (h : ∀ id, H[id]? = H'[id]? ∨ ASt H H' id) : ∀ (t : Ty) (cs : List AV), Aw H t cs = Aw H' t cs := by
 intro t
 induction t with
 | unit => intro cs; cases cs <;> rfl
 | bool => intro cs; cases cs with
  | nil => rfl
  | cons c cs => unfold Aw; rw [H4 h .bool c]
 | int k => intro cs; cases cs with
  | nil => rfl
  | cons c cs => unfold Aw; rw [H4 h (.int k) c]
 | slice e _ => intro cs; cases cs with
  | nil => rfl
  | cons c cs => unfold Aw; rw [H4 h (.slice e) c]
 | prod a b iha ihb =>
  intro cs
  simp only [Aw]
  rw [← iha cs]
  cases Aw H a cs with
  | none => rfl
  | some p => obtain ⟨x, f, r⟩ := p; simp only [ihb]
 | arr n e ih => intro cs; simp only [Aw]; exact AVN ih n cs
theorem AWK {H H' : List Ob} (h : ∀ id, H[id]? = H'[id]? ∨ ASt H H' id) (t : Ty) (v : AV) : FP H t v = FP H' t v := by
 unfold FP
 split
 ·cases v <;> simp only [asAgg]
  rename_i cs
  rw [AGz h t cs]
 ·exact H4 h t v
theorem AUv {α β : Type} [DecidableEq α] (es : List (α × β)) (k j : α) (z : β) : (AR (Ag es k ((AR es k).getD z)) j).getD z = (AR es j).getD z := by
 have key : ∀ (es : List (α × β)) (v : β), AR (Ag es k v) j = if j = k then some v else AR es j := by
  intro es v
  induction es with
  | nil =>
   simp only [Ag, AR]
   by_cases h : j = k
   ·rw [if_pos h, if_pos h.symm]
   ·rw [if_neg h, if_neg (Ne.symm h)]
  | cons e es ih =>
   obtain ⟨a, x⟩ := e
   by_cases h1 : a = k
   ·subst h1
    simp only [Ag, AR, if_true]
    by_cases h : j = a
    ·rw [if_pos h, if_pos h.symm]
    ·rw [if_neg h, if_neg (Ne.symm h), if_neg (Ne.symm h)]
   ·simp only [Ag, AR, h1, if_false, ih]
    by_cases h : a = j
    ·subst h
     rw [if_pos rfl, if_neg h1, if_pos rfl]
    ·rw [if_neg h, if_neg h]
 rw [key]
 by_cases h : j = k
 ·rw [if_pos h, h]; rfl
 ·rw [if_neg h]
theorem AGX {R : Type} {H : List Ob} {j : Nat} {a b : Ty} {es es' : List (a.den × b.den)} (hj : H[j]? = some (.map a b es)) (hval : ∀ key : a.den, (AR (α := a.den) es' key).getD b.zero = (AR (α := a.den) es key).getD b.zero)
  (T : TypeId) (m x : Operand) (ty : TypeId) (ρ : Operand → AV) (fz fz' : List Bool) (slot slot' : Nat) (kk : AV → Eff → Option R) :
  evalOp P E R (.lookup T m x false) ty ρ (H.set j (.map a b es')) fz' slot' kk = evalOp P E R (.lookup T m x false) ty ρ H fz slot kk := by
 have hlt := Av hj
 have hm : ∀ id, (H.set j (.map a b es'))[id]? = H[id]? ∨ ASt (H.set j (.map a b es')) H id := fun id => by
  by_cases hid : id = j
  ·subst hid
   exact .inr ⟨⟨a, b, es', BT hlt⟩, a, b, es, hj⟩
  ·exact .inl (A0 hid)
 simp only [evalOp, AWK hm]
 cases P.underlying T with
 | none => rfl
 | some d =>
  cases d with
  | map kt vt =>
   cases hv : ρ m <;> try rfl
   rename_i id
   dsimp only
   by_cases hid : id = j
   ·subst hid
    rw [BT hlt, hj]
    dsimp only
    cases decide (T4 P kt = some a) with
    | false => rfl
    | true => cases zeroAt P vt with
     | none => rfl
     | some z =>
      obtain ⟨b', zc⟩ := z
      dsimp only
      cases decide (b' = b) with
      | false => rfl
      | true => cases FP H a (ρ x) with
       | none => rfl
       | some p =>
        obtain ⟨key, f⟩ := p
        dsimp only
        rw [hval key]
   ·rw [A0 hid]
  | _ => rfl
theorem AGO {H : List Ob} {fz : List Bool} {T : TypeId} {m x : Operand} {ty : TypeId} {ρ : Operand → AV} {slot : Nat} {v : AV} {e : Eff} (h : ∀ (R : Type) (k : AV → Eff → Option R), evalOp P E R (.mapEntry T m x) ty ρ H fz slot k = k v e) :
  ∃ id a b es, ∃ key : a.den, H[id]? = some (.map a b es) ∧ e = { objs := [(id, .map a b (Ag (α := a.den) es key ((AR (α := a.den) es key).getD b.zero)))] } := by
 have := h Eff (fun _ e => some e)
 simp only [evalOp] at this
 split at this
 ·split at this
  ·rename_i id _ _ a b es ho
   split at this
   ·split at this
    ·simp only [Option.some.injEq] at this
     exact ⟨_, _, _, _, _, ho, this.symm⟩
    ·cases this
   ·cases this
  ·cases this
 ·cases this
theorem ASu {H H' : List Ob} {ρ : Operand → AV} {o : Op} {φ : List Nat} (hw : VC φ = false) (hk : Kn E H ρ o φ) : Kn E H' ρ o φ := by
 rcases hk with ⟨h1, _⟩ | hk
 ·rw [hw] at h1; cases h1
 ·exact .inr hk
theorem ANK {all : List Oper} {x y : Oper} {φx φy : List Nat} {sx sy : Nat} (hap : apart? all x y = true) (w1 : VC φx = false) (w2 : VC φy = false) (hm : Vu x.op y.op = true)
  {st s1 s2 : St} (hx : CA P E all x φx sx st s1) (hy : CA P E all y φy sy s1 s2) : ∃ s1', CA P E all y φy sy st s1' ∧ CA P E all x φx sx s1' s2 := by
 have hap' := Jb hap
 obtain ⟨_, hdd, _⟩ := Oper.apart_spec hap
 obtain ⟨T, m, kx, ok, hxo, T', m', ky, hyo, hok⟩ : ∃ T m kx ok, x.op = .lookup T m kx ok ∧ ∃ T' m' ky, y.op = .mapEntry T' m' ky ∧ ok = false := by
  cases hxo : x.op <;> cases hyo : y.op <;> rw [hxo, hyo] at hm <;> simp only [Vu, Bool.false_eq_true] at hm
  exact ⟨_, _, _, _, rfl, _, _, _, rfl, by simpa using hm⟩
 subst hok
 have gx : ∀ (v : AV) (s : St), Bu all y.guard (s.put x.dst v) = Bu all y.guard s := fun v s => Fy hap s v s.heap s.frz
 have gy : ∀ (v : AV) (H : List Ob) (F : List Bool) (s : St), Bu all x.guard ({ s with heap := H, frz := F }.put y.dst v) = Bu all x.guard s := fun v H F s => Fy hap' s v H F
 have hh : ∀ v : AV, (st.put x.dst v).heap = st.heap ∧ (st.put x.dst v).frz = st.frz := fun v => by cases x.dst <;> exact ⟨rfl, rfl⟩
 have xs : ∃ vx, s1 = st.put x.dst vx ∧ ∀ s : St, (∀ z ∈ x.op.operands, BG s.tmps z = BG st.tmps z) → Bu all x.guard s = Bu all x.guard st →
   (s.heap = st.heap ∨ ∃ j a b es es', st.heap[j]? = some (.map a b es) ∧ s.heap = st.heap.set j (.map a b es') ∧ ∀ key : a.den, (AR (α := a.den) es' key).getD b.zero = (AR (α := a.den) es key).getD b.zero) → CA P E all x φx sx s (s.put x.dst vx) := by
  rcases hx with ⟨g1, vx, ex, hqx, a3, rfl⟩ | ⟨g1, rfl⟩
  ·have he := Z8 (by rw [hxo]; rfl) _ _ _ _ _ a3
   subst he
   refine ⟨vx, rfl, fun s hput hg hH => .inl ⟨by rw [hg]; exact g1, vx, {}, ?_, fun R k => ?_, rfl⟩⟩
   ·rcases hqx with h | ⟨h1, h4⟩
    ·exact .inl h
    ·exact .inr ⟨ASu w1 (F6 (fun z hz => (hput z hz).symm) h1), h4⟩
   ·rw [← a3 R k, Bh x.op x.type _ _ sx k hput]
    rcases hH with hH | ⟨j, a, b, es, es', h1, h2, h3⟩
    ·rw [hH, hxo]; rfl
    ·rw [h2, hxo]
     exact AGX h1 h3 _ _ _ _ _ _ _ _ _ _
  ·exact ⟨BF, rfl, fun s _ hg _ => .inr ⟨by rw [hg]; exact g1, rfl⟩⟩
 obtain ⟨vx, rfl, hxs⟩ := xs
 have hput : ∀ z ∈ y.op.operands, BG (st.put x.dst vx).tmps z = BG st.tmps z := fun z hz => Bo hap st vx z hz
 rcases hy with ⟨g2, vy, ey, hqy, b3, rfl⟩ | ⟨g2, rfl⟩
 ·have b3' : ∀ (R : Type) (k : AV → Eff → Option R), evalOp P E R y.op y.type (BG st.tmps) st.heap st.frz sy k = k vy ey := fun R k => by
   have := b3 R k
   rw [(hh vx).1, (hh vx).2, Bh y.op y.type _ _ sy k hput] at this
   exact this
  refine ⟨(st.app ey).put y.dst vy, .inl ⟨by rw [← gx vx st]; exact g2, vy, ey, ?_, b3', rfl⟩, ?_⟩
  ·rcases hqy with h | ⟨h1, h4⟩
   ·exact .inl h
   ·exact .inr ⟨ASu w2 (F6 hput h1), h4⟩
  ·rw [hyo] at b3'
   obtain ⟨j, a, b, es, key, ho, rfl⟩ := AGO b3'
   have := hxs ((st.app { objs := [(j, .map a b (Ag (α := a.den) es key ((AR (α := a.den) es key).getD b.zero)))] }).put y.dst vy) (fun z hz => Bo hap' (st.app _) vy z hz) (gy vy _ _ st)
    (.inr ⟨j, a, b, es, _, ho, by cases y.dst <;> rfl, fun k => AUv (α := a.den) es key k b.zero⟩)
   rw [St.JZ, St.put_comm _ vx vy hdd]
   exact this
 ·refine ⟨st.put y.dst BF, .inr ⟨by rw [← gx vx st]; exact g2, rfl⟩, ?_⟩
  have := hxs (st.put y.dst BF) (fun z hz => Bo hap' st BF z hz) (gy BF st.heap st.frz st) (.inl (by cases y.dst <;> rfl))
  rw [St.put_comm _ vx BF hdd]
  exact this
theorem ATT (hL : H6 E) {all : List Oper} {x y : Oper} {φx φy : List Nat} {sx sy : Nat} (hin : indep all x y φx φy sx sy = true) (hsl : sx + slotsOf x.op ≤ sy)
  {st s1 s2 : St} (hx : CA P E all x φx sx st s1) (hy : CA P E all y φy sy s1 s2) : ∃ s1', CA P E all y φy sy st s1' ∧ CA P E all x φx sx s1' s2 := by
 obtain ⟨hap, h⟩ := ALV hin
 rcases h with ⟨w1, w2, hm⟩ | ⟨h1, h2⟩ | ⟨h1, h2⟩ | ⟨n1, n2, i1, i2, i3, i4⟩
 ·exact ANK hap w1 w2 hm hx hy
 ·exact ANM hap h1 h2 hx hy
 ·exact ANL hap h1 h2 hx hy
 ·exact ANN hL hap n1 n2 i1 i2 i3 i4 hsl hx hy
end
end Go.Pev
end
section
namespace Go.Pev
open Go.RowKit
section
variable {P : Program} {E : Env}
theorem AKv {all : List Oper} {y : Oper} {φy : List Nat} {sy : Nat} : ∀ {l : List (Nat × Oper × List Nat × Nat)}, Vs all y φy sy l = true → ∀ q ∈ l, reach all 8 y q.1 = true ∨ indep all q.2.1 y q.2.2.1 φy q.2.2.2 sy = true := by
 intro l
 induction l with
 | nil => intro _ q hq; cases hq
 | cons p l ih =>
  intro h q hq
  obtain ⟨i, x, φx, sx⟩ := p
  simp only [Vs, Bool.and_eq_true, Bool.or_eq_true] at h
  rcases List.mem_cons.1 hq with rfl | hq
  ·rcases h.1 with h1 | h1 | h1
   ·exact .inl (by simp only [reach, h1, Bool.true_or])
   ·exact .inr h1
   ·exact .inl h1
  ·exact ih h.2 q hq
theorem AGA {all : List Oper} {fp : List (List Nat)} {base : Nat} : ∀ (rest pre : List Oper) (fp' : List (List Nat)) (slot : Nat) (acc : List (Nat × Oper × List Nat × Nat)), all = pre ++ rest → fp' = fp.drop pre.length → slot = Bq all base pre.length →
  (∀ j x, j < pre.length → all[j]? = some x → (j, x, fp.getD j [], Bq all base j) ∈ acc) → AGB all rest fp' pre.length slot acc = true →
  ∀ i y, pre.length ≤ i → all[i]? = some y → (∀ e ∈ y.after.toList, Region.binds .any e = true → e.on < i) ∧
   ∀ j x, j < i → all[j]? = some x → reach all 8 y j = true ∨ indep all x y (fp.getD j []) (fp.getD i []) (Bq all base j) (Bq all base i) = true := by
 intro rest
 induction rest with
 | nil =>
  intro pre fp' slot acc hall _ _ _ _ i y hi hy
  rw [hall, List.append_nil, List.getElem?_eq_none hi] at hy; cases hy
 | cons o rest ih =>
  intro pre fp' slot acc hall hfp hsl hacc h i y hi hy
  simp only [AGB, Bool.and_eq_true] at h
  obtain ⟨⟨h1, h2⟩, h3⟩ := h
  have hlen : (pre ++ [o]).length = pre.length + 1 := by simp
  have hfp1 : fp'.headD [] = fp.getD pre.length [] := by
   rw [hfp, List.getD_eq_getElem?_getD, List.headD_eq_head?_getD, List.head?_drop]
  have hfp2 : fp'.tail = fp.drop (pre ++ [o]).length := by rw [hfp, hlen, List.tail_drop]
  have hs2 : slot + slotsOf o.op = Bq all base (pre ++ [o]).length := by
   rw [hsl, hlen]
   unfold Bq
   have e1 : all.take (pre.length + 1) = pre ++ [o] := by rw [hall, List.take_append, List.take_of_length_le (by omega)]; simp
   have e2 : all.take pre.length = pre := by rw [hall]; simp
   rw [e1, e2, JG]
   simp [Ea]; omega
  have ho : all[pre.length]? = some o := by rw [hall]; simp
  rcases Nat.lt_or_ge pre.length i with hlt | hge
  ·refine ih (pre ++ [o]) _ _ _ (by rw [hall]; simp) hfp2 hs2 (fun j x hj hx => ?_) (by rw [hlen]; exact h3) i y (by rw [hlen]; exact hlt) hy
   rw [hlen] at hj
   by_cases hjp : j = pre.length
   ·subst hjp
    rw [ho] at hx; cases hx
    rw [hfp1, hsl]; simp
   ·exact List.mem_cons_of_mem _ (hacc j x (by omega) hx)
  ·have hip : i = pre.length := by omega
   subst hip
   rw [ho] at hy; cases hy
   refine ⟨fun e he hb => ?_, fun j x hj hx => ?_⟩
   ·rw [List.all_eq_true] at h2
    have := h2 e he
    rw [hb] at this
    simpa using this
   ·rw [hfp1, hsl] at h1
    exact AKv h1 _ (hacc j x hj hx)
theorem ATZ {all : List Oper} {base i j : Nat} {x : Oper} (hij : j < i) (hx : all[j]? = some x) : Bq all base j + slotsOf x.op ≤ Bq all base i := by
 unfold Bq
 have hjl : j < all.length := by
  rcases Nat.lt_or_ge j all.length with h | h
  ·exact h
  ·rw [List.getElem?_eq_none h] at hx; cases hx
 have e : all.take (j + 1) = all.take j ++ [x] := by
  rw [List.take_succ_eq_append_getElem hjl]
  rw [List.getElem?_eq_getElem hjl] at hx
  cases hx; rfl
 have e2 : all.take i = all.take (j + 1) ++ (all.drop (j + 1)).take (i - (j + 1)) := by
  rw [← List.take_add]; congr 1; omega
 rw [e2, e, JG, JG]
 simp [Ea]; omega
theorem AMY (hL : H6 E) {all : List Oper} {fp : Nat → List Nat} {base : Nat} {i : Nat} {y : Oper} (hy : all[i]? = some y) :
  ∀ (l1 l2 : List Nat) (st st' : St), (∀ j ∈ l1, j < i ∧ ∀ x, all[j]? = some x → indep all x y (fp j) (fp i) (Bq all base j) (Bq all base i) = true) →
   AEG P E all fp (Bq all base) (l1 ++ i :: l2) st st' → AEG P E all fp (Bq all base) (i :: (l1 ++ l2)) st st' := by
 intro l1
 induction l1 with
 | nil => intro l2 st st' _ h; exact h
 | cons j l1 ih =>
  intro l2 st st' hj h
  obtain ⟨x, s1, hx, h1, h2⟩ := h
  obtain ⟨y', s2, hy', h3, h4⟩ := ih l2 s1 st' (fun k hk => hj k (by simp [hk])) h2
  rw [hy] at hy'; cases hy'
  obtain ⟨hlt, hin⟩ := hj j (by simp)
  obtain ⟨s1', h5, h6⟩ := ATT hL (hin x hx) (ATZ hlt hx) h1 h3
  exact ⟨y, s1', hy, h5, x, s2, hx, h6, h4⟩
def A4 (n : Nat) (listed : Array Bool) : List Nat := (List.range n).filter fun i => !listed.getD i true
theorem AEN {n : Nat} {listed : Array Bool} {i : Nat} (hs : listed.size = n) (l1 l2 : List Nat) (h : A4 n listed = l1 ++ i :: l2) : A4 n (listed.setIfInBounds i true) = l1 ++ l2 := by
 have hnd : (A4 n listed).Nodup := List.Pairwise.filter _ List.nodup_range
 have hmem : i ∈ A4 n listed := by rw [h]; simp
 have hin : i < n := by
  unfold A4 at hmem
  simpa using (List.mem_filter.1 hmem).1
 have e : A4 n (listed.setIfInBounds i true) = (A4 n listed).filter fun j => decide (j ≠ i) := by
  unfold A4
  rw [List.filter_filter]
  apply List.filter_congr
  intro j hj
  have hjn : j < n := by simpa using hj
  by_cases hji : j = i
  ·subst hji
   simp [Array.getD_eq_getD_getElem?, hs, hjn]
  ·simp [Array.getD_eq_getD_getElem?, Array.getElem?_setIfInBounds_ne (Ne.symm hji), hji]
 rw [e, h]
 rw [h] at hnd
 rw [List.nodup_append] at hnd
 obtain ⟨_, hn2, hd⟩ := hnd
 rw [List.filter_append, List.filter_cons]
 simp only [ne_eq, not_true_eq_false, decide_false, Bool.false_eq_true, if_false]
 rw [List.filter_eq_self.2, List.filter_eq_self.2]
 ·intro j hj
  have : j ≠ i := by rintro rfl; exact (List.nodup_cons.1 hn2).1 hj
  simp [this]
 ·intro j hj
  have : j ≠ i := hd j hj i (by simp)
  simp [this]
theorem VD {n : Nat} {listed : Array Bool} {i : Nat} {l1 l2 : List Nat} (h : A4 n listed = l1 ++ i :: l2) : ∀ j ∈ l1, j < i := by
 have hp : (A4 n listed).Pairwise (· < ·) := List.Pairwise.filter _ List.pairwise_lt_range
 rw [h, List.pairwise_append] at hp
 intro j hj
 exact hp.2.2 j hj i (by simp)
def ARa (ops : List Oper) (listed : Nat → Bool) : Prop := ∀ k z, ops[k]? = some z → listed k = true → ∀ e ∈ z.after.toList, Region.binds .any e = true → listed e.on = true
theorem AFS {ops : List Oper} {listed : Nat → Bool} (hc : ARa ops listed) : ∀ (n : Nat) (y : Oper) (j : Nat), (∀ e ∈ y.after.toList, Region.binds .any e = true → listed e.on = true) → reach ops n y j = true → listed j = true := by
 intro n
 induction n with
 | zero => intro y j _ h; cases h
 | succ n ih =>
  intro y j hy h
  simp only [reach, Bool.or_eq_true] at h
  rcases h with h | h
  ·unfold AG8 at h
   rw [List.any_eq_true] at h
   obtain ⟨e, he, hbe⟩ := h
   simp only [Bool.and_eq_true, decide_eq_true_eq] at hbe
   have := hy e he hbe.1
   rwa [hbe.2] at this
  ·rw [List.any_eq_true] at h
   obtain ⟨e, he, hbe⟩ := h
   simp only [Bool.and_eq_true] at hbe
   obtain ⟨h1, h2⟩ := hbe
   split at h2
   ·rename_i z hz
    exact ih z j (hc e.on z hz (hy e he h1)) h2
   ·cases h2
theorem AV6 (hE : ∀ g, AQ P g (E.spec g)) (hL : H6 E) {ops : Array Oper} {fp : Nat → List Nat} {base : Nat} {Q : Exit → Act → World → Prop} {st' : St}
  (hok : ∀ i y, ops.toList[i]? = some y → (∀ e ∈ y.after.toList, Region.binds .any e = true → e.on < i) ∧
   ∀ j x, j < i → ops.toList[j]? = some x → reach ops.toList 8 y j = true ∨ indep ops.toList x y (fp j) (fp i) (Bq ops.toList base j) (Bq ops.toList base i) = true) :
  ∀ (fuel : Nat) (listed : Array Bool) (st : St) (w : World) (F : Nat → Prop) (m : Mp) (a : Act), listed.size = ops.size → ARa ops.toList (fun i => listed.getD i false) → (A4 ops.size listed).length ≤ fuel → SI w F m st a →
   AEG P E ops.toList fp (Bq ops.toList base) (A4 ops.size listed) st st' →
   (∀ a' w' F' m', SI w' F' m' st' a' → Ext w F m st.heap st.frz w' F' m' st'.heap st'.frz → Q .normal a' w') → wpAny P .any ops Q fuel listed a w := by
 intro fuel
 have hdone : ∀ (listed : Array Bool) (st : St) (w : World) (F : Nat → Prop) (m : Mp) (a : Act), A4 ops.size listed = [] → SI w F m st a → AEG P E ops.toList fp (Bq ops.toList base) (A4 ops.size listed) st st' →
   (∀ a' w' F' m', SI w' F' m' st' a' → Ext w F m st.heap st.frz w' F' m' st'.heap st'.frz → Q .normal a' w') → Q .normal a w := by
  intro listed st w F m a h0 hs hc hq
  rw [h0] at hc
  have hc : st = st' := hc
  subst hc
  exact hq a w F m hs (Ext.refl ..)
 have hready : ∀ (listed : Array Bool) (i : Nat), i ∈ Region.ready .any ops listed ↔ i ∈ A4 ops.size listed ∧ ((ops[i]?).map (·.after.all fun e => !Region.binds .any e || listed.getD e.on false)).getD false = true := by
  intro listed i
  unfold Region.ready A4
  simp only [List.mem_filter, Bool.and_eq_true, List.mem_range]
  exact ⟨fun ⟨h1, h2, h3⟩ => ⟨⟨h1, h2⟩, h3⟩, fun ⟨⟨h1, h2⟩, h3⟩ => ⟨h1, h2, h3⟩⟩
 induction fuel with
 | zero =>
  intro listed st w F m a hsz hcl hl hs hc hq
  have h0 : A4 ops.size listed = [] := List.eq_nil_of_length_eq_zero (by omega)
  refine ⟨List.eq_nil_iff_forall_not_mem.2 fun i hi => ?_, hdone listed st w F m a h0 hs hc hq⟩
  have := ((hready listed i).1 hi).1
  rw [h0] at this; cases this
 | succ fuel ih =>
  intro listed st w F m a hsz hcl hl hs hc hq
  refine ⟨fun hnil => ?_, fun i hi => ?_⟩
  ·refine hdone listed st w F m a ?_ hs hc hq
   cases hu : A4 ops.size listed with
   | nil => rfl
   | cons i l =>
    exfalso
    have hmem : i ∈ A4 ops.size listed := by rw [hu]; simp
    have hin : i < ops.size := by unfold A4 at hmem; simpa using (List.mem_filter.1 hmem).1
    have : i ∈ Region.ready .any ops listed := by
     refine (hready listed i).2 ⟨hmem, ?_⟩
     rw [Array.getElem?_eq_getElem hin]
     simp only [Option.map_some, Option.getD_some]
     rw [← Array.all_toList, List.all_eq_true]
     intro e he
     cases hb : Region.binds .any e with
     | false => rfl
     | true =>
      have hlt := (hok i ops[i] (by simp [hin])).1 e he hb
      simp only [Bool.not_true, Bool.false_or]
      cases hg : listed.getD e.on false with
      | true => rfl
      | false =>
       exfalso
       have hon : e.on < ops.size := by omega
       have : e.on ∈ A4 ops.size listed := by
        unfold A4
        rw [List.mem_filter]
        refine ⟨by simpa using hon, ?_⟩
        have hlt' : e.on < listed.size := by omega
        rw [Array.getD_eq_getD_getElem?, Array.getElem?_eq_getElem hlt'] at hg ⊢
        simpa using hg
       rw [hu] at this
       have hp : (A4 ops.size listed).Pairwise (· < ·) := List.Pairwise.filter _ List.pairwise_lt_range
       rw [hu, List.pairwise_cons] at hp
       rcases List.mem_cons.1 this with h | h
       ·omega
       ·have := hp.1 _ h; omega
    rw [hnil] at this; cases this
  ·obtain ⟨hmem, hrd⟩ := (hready listed i).1 hi
   have hin : i < ops.size := by unfold A4 at hmem; simpa using (List.mem_filter.1 hmem).1
   obtain ⟨l1, l2, hsplit⟩ := List.append_of_mem hmem
   have hgi : ops[i]? = some ops[i] := Array.getElem?_eq_getElem hin
   have hgl : ops.toList[i]? = some ops[i] := by simp [hin]
   rw [hgi] at hrd
   simp only [Option.map_some, Option.getD_some] at hrd
   rw [← Array.all_toList, List.all_eq_true] at hrd
   rw [hsplit] at hc
   obtain ⟨y, s1, hy, h1, h2⟩ := AMY hL hgl l1 l2 st st' (fun j hj => by
    have hji := VD hsplit j hj
    refine ⟨hji, fun x hx => ?_⟩
    rcases (hok i _ hgl).2 j x hji hx with h | h
    ·exfalso
     have hall : ∀ e ∈ (ops[i]).after.toList, Region.binds .any e = true → (fun i => listed.getD i false) e.on = true := by
      intro e he hb
      have := hrd e he
      rw [hb] at this
      simpa using this
     have this := AFS hcl 8 _ j hall h
     have hju : j ∈ A4 ops.size listed := by rw [hsplit]; simp [hj]
     unfold A4 at hju
     have h3 := (List.mem_filter.1 hju).2
     have hjl : j < listed.size := by omega
     rw [Array.getD_eq_getD_getElem?, Array.getElem?_eq_getElem hjl] at this h3
     simp only [Option.getD_some] at this h3
     rw [this] at h3; cases h3
    ·exact h) hc
   rw [hgl] at hy; cases hy
   have hnext := AEN hsz l1 l2 hsplit
   have hlen : (A4 ops.size (listed.setIfInBounds i true)).length ≤ fuel := by
    rw [hnext]
    rw [hsplit] at hl
    simp only [List.length_append, List.length_cons] at hl ⊢
    omega
   have hcl2 : ARa ops.toList (fun k => (listed.setIfInBounds i true).getD k false) := by
    have hset : ∀ k, (listed.setIfInBounds i true).getD k false = true ↔ (k = i ∨ listed.getD k false = true) := by
     intro k
     have hil : i < listed.size := by omega
     rw [Array.getD_eq_getD_getElem?, Array.getD_eq_getD_getElem?, Array.getElem?_setIfInBounds]
     by_cases hki : i = k
     ·subst hki; simp [hil]
     ·simp [hki, Ne.symm hki]
    intro k z hz hk e he hb
    simp only [hset] at hk ⊢
    right
    rcases hk with rfl | hk
    ·rw [hgl] at hz; cases hz
     have := hrd e he
     rw [hb] at this
     simpa using this
    ·exact hcl k z hz hk e he hb
   unfold wpOp
   rw [hgi]
   simp only
   rcases h1 with ⟨hg, v, e, _, b3, rfl⟩ | ⟨hg, rfl⟩
   ·have hw : Region.wanted ops[i] (yielded ops a.tmps) = true := by
     unfold Bu at hg
     unfold Region.wanted
     cases hgd : ops[i].guard with
     | none => rfl
     | some p =>
      obtain ⟨j, want⟩ := p
      rw [hgd] at hg
      dsimp only at hg ⊢
      cases hj : (ops.toList[j]?).bind (·.dst) with
      | none => rw [hj] at hg; cases hg
      | some d =>
       rw [hj] at hg
       dsimp only at hg
       split at hg
       ·rename_i b hd
        rw [Mk hs hj hd]
        simpa using hg
       ·simp at hg
       ·cases hg
    rw [if_pos hw]
    left
    obtain ⟨v', e', c1, _, c3⟩ := Ik hE ops[i].op (AV × Eff) ops[i].type (BG st.tmps) st.heap st.frz (Bq ops.toList base i) (fun v e => some (v, e)) (v, e) (b3 _ _)
    simp only [Option.some.injEq, Prod.mk.injEq] at c1
    obtain ⟨rfl, rfl⟩ := c1
    refine c3 w F m a ops[i] _ Q rfl rfl hs.heap (fun x => Zl hs.tmps x) fun u w' F' m' hgo hr => ?_
    have hs2 := (hs.go hgo).put hr ops[i].dst
    refine ih _ _ w' F' m' _ (by simp [hsz]) hcl2 hlen hs2 (by rw [hnext]; exact h2) fun a' w2 F2 m2 q1 q2 => hq a' w2 F2 m2 q1 ?_
    have hh : ((st.app e').put ops[i].dst v').heap = D7 e' st.heap ∧ ((st.app e').put ops[i].dst v').frz = Ja e' st.frz := by cases ops[i].dst <;> exact ⟨rfl, rfl⟩
    rw [hh.1, hh.2] at q2
    exact hgo.1.trans q2
   ·have hw : Region.wanted ops[i] (yielded ops a.tmps) = false := by
     unfold Bu at hg
     unfold Region.wanted
     cases hgd : ops[i].guard with
     | none => rw [hgd] at hg; cases hg
     | some p =>
      obtain ⟨j, want⟩ := p
      rw [hgd] at hg
      dsimp only at hg ⊢
      cases hj : (ops.toList[j]?).bind (·.dst) with
      | none => rw [hj] at hg; cases hg
      | some d =>
       rw [hj] at hg
       dsimp only at hg
       split at hg
       ·rename_i b hd
        rw [Mk hs hj hd]
        simpa using hg
       ·rename_i hd
        rw [N5 hs hj hd]
        rfl
       ·cases hg
    rw [if_neg (by simp [hw])]
    have hs2 : SI w F m (st.put ops[i].dst BF) (a.put ops[i].dst undef) := hs.put AI3 ops[i].dst
    refine ih _ _ w F m _ (by simp [hsz]) hcl2 hlen hs2 (by rw [hnext]; exact h2) fun a' w2 F2 m2 q1 q2 => hq a' w2 F2 m2 q1 ?_
    have hh : (st.put ops[i].dst BF).heap = st.heap ∧ (st.put ops[i].dst BF).frz = st.frz := by cases ops[i].dst <;> exact ⟨rfl, rfl⟩
    rw [hh.1, hh.2] at q2
    exact q2
theorem SI.drew {w : World} {F : Nat → Prop} {m : Mp} {st : St} {a : Act} (h : SI w F m st a) : SI w.drew F m st a ∧ Ext w F m st.heap st.frz w.drew F m st.heap st.frz := by
 have hg := Ax.drew h.heap
 exact ⟨⟨fun t => hg.1.rep h.heap (h.tmps t), h.size, hg.2, h.defers⟩, hg.1⟩
theorem ABV (hE : ∀ g, AQ P g (E.spec g)) (hL : H6 E) {R : Type} {r : R} {id : Nat} {fp : List (List Nat)} {ops : Array Oper} {Q : Exit → Act → World → Prop} {k : St → Option R} {st : St} {w : World} {F : Nat → Prop} {m : Mp} {a : Act}
  (h : Dx P E R fp ops.toList st k = some r) (hs : SI w F m st a) (hq : ∀ a' w', Aca r k w F m st.heap st.frz a' w' → Q .normal a' w') : (Code.region id ops true).wp P Q a w := by
 unfold Dx at h
 split at h
 ·rename_i hok
  simp only [Bool.and_eq_true] at hok
  obtain ⟨hm, hok⟩ := hok
  obtain ⟨hs1, he1⟩ := hs.drew
  obtain ⟨hs2, he2⟩ := hs1.pad (Ea ops.toList)
  have hnn : ops.toList = [] ++ ops.toList := by simp
  obtain ⟨st', hc, hk⟩ := ABW hE (all := ops.toList) (fp := fp) (base := st.heap.length) ops.toList [] fp st.heap.length _ hnn rfl (by simp [Bq, Ea]) h
  refine wp_region_any hm ?_
  have hu : A4 ops.size (Array.replicate ops.size false) = List.range' 0 ops.toList.length := by
   unfold A4
   rw [Array.length_toList, ← List.range_eq_range']
   rw [List.filter_eq_self]
   intro i hi
   have : i < ops.size := by simpa using hi
   simp [Array.getD_eq_getD_getElem?, this]
  refine AV6 (ops := ops) hE hL (fp := fun i => fp.getD i []) (base := st.heap.length) (st' := st') (fun i y hy => AGA (all := ops.toList) ops.toList [] fp _ [] hnn rfl (by simp [Bq, Ea]) (fun j x hj => by simp at hj) hok i y (Nat.zero_le _) hy)
   ops.size _ _ w.drew F m a (by simp) (fun k z _ hk => by
    exfalso
    have hk : (Array.replicate ops.size false).getD k false = true := hk
    rw [Array.getD_eq_getD_getElem?, Array.getElem?_replicate] at hk
    split at hk <;> cases hk) (by rw [hu]; simp) hs2 (by rw [hu]; exact hc) fun a' w' F' m' q1 q2 => hq a' w' ⟨st', F', m', hk, q1, he1.trans (he2.trans q2)⟩
 ·cases h
end
end Go.Pev
end
section
namespace Go.Pev
open Go.RowKit
def BN (w : World) (F : Nat → Prop) (m : Mp) (H : List Ob) (fz : List Bool) (m' : Mp) (H' : List Ob) (j : Nat) : Bnd → Prop
 | .none => m' j = none ∧ ((∃ T e, H'[j]? = some (.arr T e []) ∧ 0 < e.size) ∨ ∃ T t, H'[j]? = some (.prs T t []))
 | .whole id => m' j = m id ∧ ((∃ T t xs, H[id]? = some (.arr T t xs) ∧ H'[j]? = some (.arr T t xs) ∧ fz.getD id false = false) ∨
   (∃ k v es, H[id]? = some (.map k v es) ∧ H'[j]? = some (.map k v es)) ∨
   (∃ cs cs' b c vs T, H[id]? = some (.box cs) ∧ H'[j]? = some (.box cs') ∧ cs'.length = cs.length ∧ m id = some (b, c) ∧ w.heap[b]? = some (.cells vs T (0, 0)) ∧ Ae w F m' H' cs' vs.toList ∧ ∀ u ∈ vs.toList, u.oneCell' = true) ∨
   (∃ T tgt j0 is, H[id]? = some (.prs T tgt is) ∧ H'[j]? = some (.prs T j0 is) ∧ ObI w F m' H' (.prs T j0 is) (m id)))
 | .cut id => ∃ T t xs n, H[id]? = some (.arr T t xs) ∧ fz.getD id false = false ∧ H'[j]? = some (.arr T t (List.take (α := t.den) n xs)) ∧ (m' j = m id ∨ (m' j = none ∧ List.take (α := t.den) n xs = []))
structure Inv (w : World) (F : Nat → Prop) (m : Mp) (H : List Ob) (fz : List Bool) (bs : List Bnd) (m' : Mp) (E : St) (val : Nat → Value) : Prop where
 tmps : ∀ t, Rep w F m' E.heap (E.tmps.getD t .junk) (val t)
 lenH : E.heap.length = bs.length
 lenF : E.frz.length = E.heap.length
 frz : ∀ i, E.frz.getD i false = false
 ob : ∀ j b, bs[j]? = some b → BN w F m H fz m' E.heap j b
 inj : ∀ (i j : Nat) (b c : Bnd) (id : Nat), bs[i]? = some b → bs[j]? = some c → b.id? = some id → c.id? = some id → i = j
def ARO (w : World) (m : Mp) (H : List Ob) (bs : List Bnd) (val : Nat → Value) : Loc → Value → Prop
 | .tmp t, u => u = val t
 | .cell j c, u => ∃ id b cc vs T cs, bs[j]? = some (.whole id) ∧ H[id]? = some (.box cs) ∧ m id = some (b, cc) ∧ w.heap[b]? = some (.cells vs T (0, 0)) ∧ vs.toList[c]? = some u
 | _, _ => True
theorem AZs {w : World} {F : Nat → Prop} {m : Mp} {H : List Ob} {cs : List AV} {us : List Value} {c : Nat} {v : AV} {u : Value} (h : Ae w F m H cs us) (hu : us[c]? = some u) (hv : Rep w F m H v u) : Ae w F m H (cs.set c v) us := by
 refine DU (by simp [Ar h]) fun i x y hx hy => ?_
 by_cases hic : i = c
 ·subst hic
  rw [hu] at hy; cases hy
  have hl : i < cs.length := by
   rw [← Ar h]
   rcases Nat.lt_or_ge i us.length with h' | h'
   ·exact h'
   ·rw [List.getElem?_eq_none h'] at hu; cases hu
  rw [List.getElem?_set_self hl] at hx
  cases hx; exact hv
 ·rw [List.getElem?_set_ne (Ne.symm hic)] at hx
  obtain ⟨y', hy', hr⟩ := B0 h hx
  rw [hy] at hy'; cases hy'; exact hr
theorem AWl {w : World} {F : Nat → Prop} {m : Mp} {H : List Ob} {tm : List AV} {val : Nat → Value} (h : ∀ t, Rep w F m H (tm.getD t .junk) (val t)) {t : Nat} {v : AV} (hv : Rep w F m H v (val t)) : ∀ i, Rep w F m H ((tm.set t v).getD i .junk) (val i) := by
 intro i
 by_cases hit : i = t
 ·subst hit
  by_cases hl : i < tm.length
  ·simp [hl, hv]
  ·rw [List.set_eq_of_length_le (by omega)]; exact h i
 ·have := h i
  rw [List.getD_eq_getElem?_getD] at this ⊢
  rw [List.getElem?_set_ne (Ne.symm hit)]
  exact this
theorem AJc {w : World} {F F2 : Nat → Prop} {m m2 : Mp} {H H2 : List Ob} {T : TypeId} {j : Nat} {is : List Int} {l : Option (Nat × Nat)} (h3 : ∀ {cs us}, Ae w F m H cs us → Ae w F2 m2 H2 cs us) (h : ObI w F m H (.prs T j is) l) : ObI w F2 m2 H2 (.prs T j is) l := by
 cases l with
 | none => exact h
 | some p =>
  obtain ⟨b, cap⟩ := p
  obtain ⟨vs, us, e1, e2, e3, e4, e5, e6⟩ := h
  exact ⟨vs, us, e1, e2, e3, e4, h3 e5, e6⟩
section
variable {w : World} {F : Nat → Prop} {m : Mp} {H : List Ob} {fz : List Bool} {bs : List Bnd} {m' : Mp} {E : St} {val : Nat → Value}
theorem BN.mono {b : Bnd} {m'' : Mp} {H' H'' : List Ob} {j : Nat} (h : BN w F m H fz m' H' j b) (h1 : H''[j]? = H'[j]?) (h2 : m'' j = m' j) (h3 : ∀ {cs us}, Ae w F m' H' cs us → Ae w F m'' H'' cs us) : BN w F m H fz m'' H'' j b := by
 cases b with
 | none => simp only [BN] at *; rw [h1, h2]; exact h
 | whole id =>
  simp only [BN] at *
  rw [h1, h2]
  obtain ⟨e, h⟩ := h
  refine ⟨e, ?_⟩
  rcases h with h | h | ⟨cs, cs', b, c, vs, T, a1, a2, a3, a4, a5, a6, a7⟩ | ⟨T, tgt, j0, is, a1, a2, a3⟩
  ·exact .inl h
  ·exact .inr (.inl h)
  ·exact .inr (.inr (.inl ⟨cs, cs', b, c, vs, T, a1, a2, a3, a4, a5, h3 a6, a7⟩))
  ·exact .inr (.inr (.inr ⟨T, tgt, j0, is, a1, a2, AJc h3 a3⟩))
 | cut id => simp only [BN] at *; rw [h1, h2]; exact h
theorem Inv.place (h : Inv w F m H fz bs m' E val) {l : Loc} {u : Value} {v : AV} (hl : ARO w m H bs val l u) (hv : Rep w F m' E.heap v u) : Inv w F m H fz bs m' (Pev.place E v l) val := by
 cases l with
 | tmp t =>
  have hl : u = val t := hl
  subst hl
  exact ⟨AWl h.tmps hv, h.lenH, h.lenF, h.frz, h.ob, h.inj⟩
 | cap t i => exact h
 | obj j => exact h
 | cell j c =>
  obtain ⟨id, b, cc, vs, T, cs, hj, hb, hm, hw, hu⟩ := hl
  have hbd := h.ob j _ hj
  simp only [BN] at hbd
  obtain ⟨hm', hbd⟩ := hbd
  rw [hb] at hbd
  rcases hbd with ⟨_, _, _, hx, _⟩ | ⟨_, _, _, hx, _⟩ | ⟨cs0, cs', b0, c0, vs0, T0, hx, h1, h2, h3, h4, h5, h6⟩ | ⟨_, _, _, _, hx, _⟩
  ·cases hx
  ·cases hx
  rotate_left
  ·cases hx
  ·cases hx
   rw [hm] at h3; cases h3
   rw [hw] at h4; cases h4
   have hlt := Av h1
   have hcomp : Ck E.heap (E.heap.set j (.box (cs'.set c v))) m' m' := by
    intro i o hi hf
    by_cases hij : i = j
    ·subst hij
     rw [h1] at hi; cases hi
     exact .inr ⟨by simp, _, BT hlt, trivial, rfl⟩
    ·rcases Ck.refl E.heap m' i o hi hf with h | ⟨hd, o', h4, h5, _⟩
     ·exact .inl (by rw [A0 hij]; exact h)
     ·exact .inr ⟨hd, o', by rw [A0 hij]; exact h4, h5, rfl⟩
   have mono : ∀ {a u}, Rep w F m' E.heap a u → Rep w F m' (E.heap.set j (.box (cs'.set c v))) a u := fun h => Rep.mono (fun _ _ => rfl) (fun _ h => h) hcomp _ h
   have monoL : ∀ {a u}, Ae w F m' E.heap a u → Ae w F m' (E.heap.set j (.box (cs'.set c v))) a u := fun h => Ae.mono (fun _ _ => rfl) (fun _ h => h) hcomp _ h
   unfold Pev.place
   simp only [h1]
   refine ⟨fun t => mono (h.tmps t), by simp [h.lenH], by simp [h.lenF], h.frz, fun i x hi => ?_, h.inj⟩
   by_cases hij : i = j
   ·subst hij
    rw [hj] at hi; cases hi
    simp only [BN]
    exact ⟨hm', .inr (.inr (.inl ⟨cs, _, b, cc, vs, T, hb, BT hlt, by simp [h2], hm, hw, monoL (AZs h5 hu hv), h6⟩))⟩
   ·exact (h.ob i x hi).mono (A0 hij) rfl monoL
theorem V9 {α : Type} {l : List α} {x y : α} {j : Nat} (h : (l ++ [x])[j]? = some y) : (j < l.length ∧ l[j]? = some y) ∨ (j = l.length ∧ y = x) := by
 rcases Nat.lt_trichotomy j l.length with hj | hj | hj
 ·rw [List.getElem?_append_left hj] at h; exact .inl ⟨hj, h⟩
 ·subst hj; simp at h; exact .inr ⟨rfl, h.symm⟩
 ·rw [List.getElem?_eq_none (by simp; omega)] at h; cases h
theorem Inv.add (h : Inv w F m H fz bs m' E val) {b : Bnd} {o : Ob} {l : Option (Nat × Nat)} (hid : ∀ (i : Nat) (c : Bnd) (id : Nat), bs[i]? = some c → c.id? = some id → b.id? ≠ some id)
  (hbd : BN w F m H fz (upd m' E.heap.length l) (E.heap ++ [o]) E.heap.length b) : Inv w F m H fz (bs ++ [b]) (upd m' E.heap.length l) (Iu E o) val := by
 have hcomp : Ck E.heap (E.heap ++ [o]) m' (upd m' E.heap.length l) := by
  intro i x hi hf
  have hlt := Av hi
  rcases Ck.refl E.heap m' i x hi hf with h | ⟨hd, o', h4, h5, _⟩
  ·exact .inl (by rw [List.getElem?_append_left hlt]; exact h)
  ·exact .inr ⟨hd, o', by rw [List.getElem?_append_left hlt]; exact h4, h5, BO (by omega)⟩
 have monoL : ∀ {a u}, Ae w F m' E.heap a u → Ae w F (upd m' E.heap.length l) (E.heap ++ [o]) a u := fun h => Ae.mono (fun _ _ => rfl) (fun _ h => h) hcomp _ h
 refine ⟨fun t => Rep.mono (fun _ _ => rfl) (fun _ h => h) hcomp _ (h.tmps t), by simp [Iu, h.lenH], by simp [Iu, h.lenF], fun i => ?_, fun j x hj => ?_, fun i j x y id hi hj hx hy => ?_⟩
 ·have := h.frz i
  simp only [Iu]
  rw [List.getD_eq_getElem?_getD] at this ⊢
  rcases Nat.lt_or_ge i E.frz.length with hl | hl
  ·rw [List.getElem?_append_left hl]; exact this
  ·rw [List.getElem?_append_right hl]
   cases hk : i - E.frz.length with
   | zero => simp
   | succ k => simp
 ·rcases V9 hj with ⟨hlt, hj1⟩ | ⟨hj1, rfl⟩
  ·rw [← h.lenH] at hlt
   exact (h.ob j x hj1).mono (List.getElem?_append_left hlt) (BO (by omega)) monoL
  ·rw [← h.lenH] at hj1
   rw [hj1]
   exact hbd
 ·rcases V9 hi with ⟨hlt, hi1⟩ | ⟨hi1, rfl⟩
  ·rcases V9 hj with ⟨hlt', hj1⟩ | ⟨hj1, rfl⟩
   ·exact h.inj i j x y id hi1 hj1 hx hy
   ·exact absurd hy (hid i x id hi1 hx)
  ·rcases V9 hj with ⟨hlt', hj1⟩ | ⟨hj1, rfl⟩
   ·exact absurd hx (hid j y id hj1 hy)
   ·omega
theorem Ig {id : Nat} (h : fresh? bs id = true) : ∀ (i : Nat) (c : Bnd), bs[i]? = some c → c.id? ≠ some id := by
 intro i c hi he
 unfold fresh? at h
 rw [List.all_eq_true] at h
 have := h c (List.mem_of_getElem? hi)
 cases c with
 | none => simp [Bnd.id?] at he
 | whole k => simp only [Bnd.id?, Option.some.injEq] at he; subst he; simp at this
 | cut k => simp only [Bnd.id?, Option.some.injEq] at he; subst he; simp at this
theorem Inv.freeze (h : Inv w F m H fz bs m' E val) {f : List Nat} (hf : f.all (fresh? bs) = true) : Inv w (Dc F m H f) m H (Ak f fz) bs m' E val := by
 have monoL : ∀ {a u}, Ae w F m' E.heap a u → Ae w (Dc F m H f) m' E.heap a u := fun h => Ae.mono (fun _ _ => rfl) (fun _ h => .inl h) (Ck.refl _ _) _ h
 have hfz : ∀ (id i : Nat) (c : Bnd), bs[i]? = some c → c.id? = some id → fz.getD id false = false → (Ak f fz).getD id false = false := by
  intro id i c hi hc h0
  rw [A1, h0]
  have : id ∉ f := fun hid => by
   rw [List.all_eq_true] at hf
   exact Ig (hf id hid) i c hi hc
  simp [this]
 refine ⟨fun t => Rep.mono (fun _ _ => rfl) (fun _ h => .inl h) (Ck.refl _ _) _ (h.tmps t), h.lenH, h.lenF, h.frz, fun j b hj => ?_, h.inj⟩
 have := h.ob j b hj
 cases b with
 | none => exact this
 | whole id =>
  simp only [BN] at *
  obtain ⟨e, this⟩ := this
  refine ⟨e, ?_⟩
  rcases this with ⟨T, t, xs, a1, a2, a3⟩ | h1 | ⟨cs, cs', b, c, vs, T, a1, a2, a3, a4, a5, a6, a7⟩ | ⟨T, tgt, j0, is, a1, a2, a3⟩
  ·exact .inl ⟨T, t, xs, a1, a2, hfz id j _ hj rfl a3⟩
  ·exact .inr (.inl h1)
  ·exact .inr (.inr (.inl ⟨cs, cs', b, c, vs, T, a1, a2, a3, a4, a5, monoL a6, a7⟩))
  ·exact .inr (.inr (.inr ⟨T, tgt, j0, is, a1, a2, AJc monoL a3⟩))
 | cut id =>
  simp only [BN] at *
  obtain ⟨T, t, xs, n, a1, a2, a3⟩ := this
  exact ⟨T, t, xs, n, a1, hfz id j _ hj rfl a2, a3⟩
theorem AXV {j id off : Nat} {u : Value} (hb : BN w F m H fz m' E.heap j (.whole id)) (hu : Rep w F m H (.ptr id off) u) : Rep w F m' E.heap (.ptr j off) u := by
 simp only [BN] at hb
 obtain ⟨e, hb⟩ := hb
 unfold Rep at *
 unfold GL at *
 rcases hb with ⟨T, t, xs, a1, _⟩ | ⟨k, v, es, a1, _⟩ | ⟨cs, cs', b, c, vs, T, a1, a2, _, a4, _⟩ | ⟨_, _, _, _, a1, _⟩
 ·rw [a1] at hu; exact hu.elim
 ·rw [a1] at hu; exact hu.elim
 ·rw [a1] at hu
  rw [a2, e]
  exact hu
 ·rw [a1] at hu; exact hu.elim
theorem AbO {j id i sub : Nat} {u : Value} (hb : BN w F m H fz m' E.heap j (.whole id)) (hu : Rep w F m H (.eptr id i sub) u) : Rep w F m' E.heap (.eptr j i sub) u := by
 simp only [BN] at hb
 obtain ⟨e, hb⟩ := hb
 unfold Rep at *
 unfold DV at *
 rcases hb with ⟨T, t, xs, a1, a2, _⟩ | ⟨k, v, es, a1, _⟩ | ⟨cs, cs', b, c, vs, T, a1, a2, _, a4, _⟩ | ⟨_, _, _, _, a1, a2, _⟩
 ·rw [a1] at hu
  rw [a2, e]
  exact hu
 ·rw [a1] at hu; exact hu.elim
 ·rw [a1] at hu; exact hu.elim
 ·rw [a1] at hu
  rw [a2, e]
  exact hu
theorem AaU {j id : Nat} {is : List Int} {us : List Value} (hb : BN w F m H fz m' E.heap j (.whole id)) (hu : Ae w F m H (Ez id is) us) : Ae w F m' E.heap (Ez j is) us := by
 refine DU (by have := Ar hu; simpa [Ez] using this) fun i c v hc hv => ?_
 rw [Ez, List.getElem?_map, Option.map_eq_some_iff] at hc
 obtain ⟨x, hx, rfl⟩ := hc
 obtain ⟨v', hv', hr⟩ := B0 hu (i := i) (c := .eptr id x.toNat 0) (by rw [Ez, List.getElem?_map, hx]; rfl)
 rw [hv] at hv'; cases hv'
 exact AbO hb hr
theorem Aci {j id : Nat} {u : Value} (hb : BN w F m H fz m' E.heap j (.whole id)) (hu : Rep w F m H (.mp id) u) : Rep w F m' E.heap (.mp j) u := by
 simp only [BN] at hb
 obtain ⟨e, hb⟩ := hb
 unfold Rep at *
 unfold Mf at *
 rcases hb with ⟨T, t, xs, a1, _⟩ | ⟨k, v, es, a1, a2⟩ | ⟨cs, cs', b, c, vs, T, a1, a2, _, a4, _⟩ | ⟨_, _, _, _, a1, _⟩
 ·rw [a1] at hu; exact hu.elim
 ·rw [a1] at hu
  rw [a2, e]
  exact hu
 ·rw [a1] at hu; exact hu.elim
 ·rw [a1] at hu; exact hu.elim
theorem AX3 {j id : Nat} {u : Value} (hb : BN w F m H fz m' E.heap j (.whole id)) (hu : Rep w F m H (.own id) u) : Rep w F m' E.heap (.own j) u := by
 simp only [BN] at hb
 obtain ⟨e, hb⟩ := hb
 unfold Rep at *
 unfold Bb at *
 rcases hb with ⟨T, t, xs, a1, a2, _⟩ | ⟨k, v, es, a1, a2⟩ | ⟨cs, cs', b, c, vs, T, a1, a2, _, a4, _⟩ | ⟨_, _, _, _, a1, a2, _⟩
 ·rw [a1] at hu
  rw [a2, e]
  exact hu
 ·rw [a1] at hu; exact hu.elim
 ·rw [a1] at hu; exact hu.elim
 ·rw [a1] at hu
  rw [a2, e]
  exact hu
theorem AMv {j id off n : Nat} {u : Value} (hb : BN w F m H fz m' E.heap j (.whole id)) (hu : Rep w F m H (.win id off n) u) : Rep w F m' E.heap (.win j off n) u := by
 simp only [BN] at hb
 obtain ⟨e, hb⟩ := hb
 unfold Rep at *
 unfold GK at *
 rcases hb with ⟨T, t, xs, a1, a2, _⟩ | ⟨k, v, es, a1, a2⟩ | ⟨cs, cs', b, c, vs, T, a1, a2, _, a4, _⟩ | ⟨_, _, _, _, a1, _⟩
 ·rw [a1] at hu
  rw [a2, e]
  exact hu
 ·rw [a1] at hu; exact hu.elim
 ·rw [a1] at hu; exact hu.elim
 ·rw [a1] at hu; exact hu.elim
theorem Aaf {id : Nat} {u : Value} {T : TypeId} {t : Ty} {ys : List t.den} (hi : HI w F m H fz) (ho : H[id]? = some (.arr T t ys)) (hu : Rep w F m H (.own id) u) : Rep w F m H (.win id 0 ys.length) u := by
 unfold Rep at *
 unfold Bb at hu
 unfold GK
 rw [ho] at hu ⊢
 simp only at hu ⊢
 refine ⟨by omega, ?_⟩
 cases hm : m id with
 | none =>
  rw [hm] at hu
  obtain ⟨a, rfl⟩ := hu
  obtain ⟨_, hob⟩ := hi.obj id _ ho
  rw [hm] at hob
  simp only at hob
  subst hob
  exact ⟨a, rfl⟩
 | some p =>
  obtain ⟨b, cap⟩ := p
  rw [hm] at hu
  simp only at hu
  subst hu
  exact ⟨some ⟨b, 0, none⟩, rfl, fun _ => by simp⟩
theorem Dy {α : Type} {l : List α} {i : Nat} {o : α} (h : l[i]? = some o) : i < l.length := by
 rcases Nat.lt_or_ge i l.length with h' | h'
 ·exact h'
 ·rw [List.getElem?_eq_none h'] at h; cases h
theorem B6 (hi : HI w F m H fz) {tm : List AV} (ht : ∀ t v, tm[t]? = some v → Rep w F m H v (val t)) {l : Loc} {v : AV} (h : look tm H bs l = some v) : ∃ u, Rep w F m H v u ∧ ARO w m H bs val l u := by
 cases l with
 | tmp t => exact ⟨val t, ht t v h, rfl⟩
 | cell j c =>
  simp only [look] at h
  split at h
  ·rename_i id hj
   split at h
   ·rename_i cs ho
    obtain ⟨b, cc, vs, T, h1, h2, h3, h4⟩ := hi.obj id _ ho
    obtain ⟨u, hu, hr⟩ := B0 h3 h
    exact ⟨u, hr, id, b, cc, vs, T, cs, hj, ho, h1, h2, hu⟩
   ·cases h
  ·cases h
 | cap t i =>
  simp only [look] at h
  split at h
  ·rename_i f cs hc
   have := ht t _ hc
   unfold Rep at this
   obtain ⟨us, _, hr⟩ := this
   obtain ⟨u, _, hu⟩ := B0 hr h
   exact ⟨u, hu, trivial⟩
  ·rename_i f cs hc
   have := ht t _ hc
   unfold Rep at this
   obtain ⟨us, _, hr⟩ := this
   obtain ⟨u, _, hu⟩ := B0 hr h
   exact ⟨u, hu, trivial⟩
  ·cases h
 | obj j =>
  simp only [look, Abk] at h
  split at h
  ·rename_i T t xs ho
   cases h
   have := hi.obj j _ ho
   obtain ⟨_, this⟩ := this
   cases hm : m j with
   | none =>
    refine ⟨.slice none 0 0, ?_, trivial⟩
    unfold Rep Bb; rw [ho, hm]; exact ⟨none, rfl⟩
   | some p =>
    obtain ⟨b, cap⟩ := p
    refine ⟨.slice (some ⟨b, 0, none⟩) (List.length (α := t.den) xs) cap, ?_, trivial⟩
    unfold Rep Bb; rw [ho, hm]
  ·rename_i cs ho
   cases h
   obtain ⟨b, c, vs, T, h1, _⟩ := hi.obj j _ ho
   refine ⟨.pointer (some ⟨b, 0, none⟩), ?_, trivial⟩
   unfold Rep GL; rw [ho]; exact ⟨b, c, h1, rfl⟩
  ·rename_i k v es ho
   cases h
   obtain ⟨b, c, vs, T, h1, _⟩ := hi.obj j _ ho
   refine ⟨.map (some b), ?_, trivial⟩
   unfold Rep Mf; rw [ho]; exact ⟨b, c, h1, rfl⟩
  ·rename_i T t is ho
   cases h
   cases hm : m j with
   | none =>
    refine ⟨.slice none 0 0, ?_, trivial⟩
    unfold Rep Bb; rw [ho, hm]; exact ⟨none, rfl⟩
   | some p =>
    obtain ⟨b, cap⟩ := p
    refine ⟨.slice (some ⟨b, 0, none⟩) is.length cap, ?_, trivial⟩
    unfold Rep Bb; rw [ho, hm]
  ·cases h
theorem ARO.app {l : Loc} {u : Value} (h : ARO w m H bs val l u) (b : Bnd) : ARO w m H (bs ++ [b]) val l u := by
 cases l with
 | tmp t => exact h
 | cap t i => trivial
 | obj j => trivial
 | cell j c =>
  obtain ⟨id, b1, cc, vs, T, cs, h1, h2⟩ := h
  exact ⟨id, b1, cc, vs, T, cs, by rw [List.getElem?_append_left (Dy h1)]; exact h1, h2⟩
theorem AbU (hb : ∀ j b, bs[j]? = some b → BN w F m H fz m' E.heap j b) : ∀ (vs : List AV) (ps : List (Nat × Nat)) (us : List Value), AV0 bs vs ps = true → Ae w F m H vs us → Ae w F m' E.heap (ps.map fun p => .ptr p.1 p.2) us := by
 intro vs
 induction vs with
 | nil =>
  intro ps us h hr
  cases ps with
  | nil => unfold Ae at *; exact hr
  | cons p ps => simp [AV0] at h
 | cons v vs ih =>
  intro ps us h hr
  cases ps with
  | nil => cases v <;> simp [AV0] at h
  | cons p ps =>
   obtain ⟨j, o'⟩ := p
   cases v <;> simp only [AV0] at h <;> try (cases h; done)
   rename_i id o
   simp only [Bool.and_eq_true] at h
   obtain ⟨h1, h2⟩ := h
   unfold Ae at hr
   obtain ⟨u, us', rfl, hu, hr⟩ := hr
   simp only [List.map_cons]
   unfold Ae
   refine ⟨u, us', rfl, ?_, ih ps us' h2 hr⟩
   split at h1
   ·rename_i id' hj
    simp only [Bool.and_eq_true, decide_eq_true_eq] at h1
    obtain ⟨rfl, rfl⟩ := h1
    exact AXV (hb j _ hj) hu
   ·cases h1
end
end Go.Pev
end
section
namespace Go.Pev
open Go.RowKit
theorem ANY (f g : List Nat) : ∀ fz, Ak (f ++ g) fz = Ak g (Ak f fz) := by
 induction f with
 | nil => intro fz; rfl
 | cons a f ih => intro fz; simp only [List.cons_append, Ak]; exact ih _
section
variable {w : World} {H : List Ob} {m : Mp} {val : Nat → Value} {tm : List AV}
theorem ES {fz : List Bool} {id : Nat} (h : Ay fz id = true) : fz.getD id false = false := by
 unfold Ay at h; simpa using h
theorem AQo : ∀ (its : AE) (fz : List Bool) (bs : List Bnd) (F : Nat → Prop) (m' : Mp) (E : St) (d : CO (leaves its)) (bs' : List Bnd) (fr : List Nat),
  HI w F m H fz → (∀ t v, tm[t]? = some v → Rep w F m H v (val t)) → Inv w F m H fz bs m' E val → dec tm H its fz bs = some (d, bs', fr) →
  ∃ F2 m2, Ax w F m H fz w F2 m H (Ak fr fz) ∧ Inv w F2 m H (Ak fr fz) bs' m2 (enc its d E) val ∧ ∃ r, bs' = bs ++ r := by
 intro its
 induction its with
 | nil =>
  intro fz bs F m' E d bs' fr hi ht hv h
  simp only [dec, Option.some.injEq] at h
  obtain ⟨rfl, rfl, rfl⟩ := h
  exact ⟨F, m', Ax.refl hi, hv, [], by simp⟩
 | cons p r ih =>
  intro fz bs F m' E d bs' fr hi ht hv h
  obtain ⟨l, c⟩ := p
  have obj : ∀ (b : Bnd) (o : Ob) (lc : Option (Nat × Nat)) (ref : AV) (u : Value) (xs : CO (leaves r)) (g : List Nat), ARO w m H bs val l u → (∀ (i : Nat) (c : Bnd) (id : Nat), bs[i]? = some c → c.id? = some id → b.id? ≠ some id) →
    BN w F m H fz (upd m' E.heap.length lc) (E.heap ++ [o]) E.heap.length b → Rep w F (upd m' E.heap.length lc) (E.heap ++ [o]) ref u → dec tm H r fz (bs ++ [b]) = some (xs, bs', g) →
    ∃ F2 m2, Ax w F m H fz w F2 m H (Ak g fz) ∧ Inv w F2 m H (Ak g fz) bs' m2 (enc r xs (place (Iu E o) ref l)) val ∧ ∃ r, bs' = bs ++ r := by
   intro b o lc ref u xs g hat hid hbd hrep hd
   have h1 := hv.add hid hbd
   have h2 := h1.place (hat.app b) hrep
   obtain ⟨F2, m2, a1, a2, rr, a3⟩ := ih fz (bs ++ [b]) F _ _ xs bs' g hi ht h2 hd
   exact ⟨F2, m2, a1, a2, b :: rr, by rw [a3]; simp⟩
  have ref : ∀ (v : AV) (u : Value) (xs : CO (leaves r)) (g : List Nat), ARO w m H bs val l u → Rep w F m' E.heap v u → dec tm H r fz bs = some (xs, bs', g) →
    ∃ F2 m2, Ax w F m H fz w F2 m H (Ak g fz) ∧ Inv w F2 m H (Ak g fz) bs' m2 (enc r xs (place E v l)) val ∧ ∃ r, bs' = bs ++ r := by
   intro v u xs g hat hrep hd
   exact ih fz bs F _ _ xs bs' g hi ht (hv.place hat hrep) hd
  cases c with
  | dat t =>
   simp only [dec] at h
   split at h
   ·rename_i v hl
    split at h
    ·rename_i x f hx
     split at h
     ·rename_i hf
      split at h
      ·rename_i xs bs1 g hd
       simp only [Option.some.injEq] at h
       obtain ⟨rfl, rfl, rfl⟩ := h
       obtain ⟨u, hu, hat⟩ := B6 hi ht hl
       have hdat := Fi hi hx hu
       have hg := Ax.freeze hi f
       have hv1 := hv.freeze hf
       have hv2 := hv1.place (v := .data t x) hat (by unfold Rep; exact hdat)
       obtain ⟨F2, m2, a1, a2, rr, a3⟩ := ih (Ak f fz) bs (Dc F m H f) _ _ xs _ _ hg.2 (fun t v h => hg.1.rep hi (ht t v h)) hv2 hd
       rw [ANY]
       exact ⟨F2, m2, hg.trans a1, a2, rr, a3⟩
      ·cases h
     ·cases h
    ·cases h
   ·cases h
  | own T e =>
   simp only [dec] at h
   split at h
   ·rename_i e' hl
    split at h
    ·rename_i hc
     simp only [Bool.and_eq_true, decide_eq_true_eq] at hc
     obtain ⟨rfl, hsz⟩ := hc
     split at h
     ·rename_i xs bs1 g hd
      simp only [Option.some.injEq] at h
      obtain ⟨rfl, rfl, rfl⟩ := h
      obtain ⟨u, hu, hat⟩ := B6 hi ht hl
      unfold Rep at hu
      refine obj .none (.arr T e' []) none (.own E.heap.length) u xs _ hat (fun _ _ _ _ _ => by simp [Bnd.id?]) ?_ ?_ hd
      ·simp only [BN]
       exact ⟨Aq .., .inl ⟨T, e', by simp, hsz⟩⟩
      ·unfold Rep Bb
       simp only [List.getElem?_append_right (Nat.le_refl _), Nat.sub_self, List.getElem?_cons_zero, Aq]
       exact ⟨_, hu⟩
     ·cases h
    ·cases h
   ·rename_i id hl
    split at h
    ·rename_i T' e' ys ho hfr
     simp only [Bool.and_eq_true] at hfr
     obtain ⟨hun, hfr⟩ := hfr
     split at h
     ·rename_i ys' hT hc
      simp only [decide_eq_true_eq] at hT
      subst hT
      obtain ⟨he, hy⟩ := FN hc
      subst he
      simp only at hy
      subst hy
      split at h
      ·rename_i xs bs1 g hd
       simp only [Option.some.injEq] at h
       obtain ⟨rfl, rfl, rfl⟩ := h
       obtain ⟨u, hu, hat⟩ := B6 hi ht hl
       refine obj (.whole id) (.arr T e' ys) (m id) (.own E.heap.length) u xs _ hat (fun i c id' hic hcid => ?_) ?_ ?_ hd
       ·rintro h; simp only [Bnd.id?, Option.some.injEq] at h; subst h; exact Ig hfr i c hic hcid
       ·simp only [BN]
        exact ⟨Aq .., .inl ⟨T, e', ys, ho, by simp, ES hun⟩⟩
       ·unfold Rep at hu ⊢
        rw [ho] at hu
        rw [List.getElem?_append_right (Nat.le_refl _), Nat.sub_self, List.getElem?_cons_zero, Aq]
        exact hu
      ·cases h
     ·cases h
    ·cases h
   ·rename_i id n hl
    split at h
    ·rename_i T' e' ys ho hfr
     simp only [Bool.and_eq_true] at hfr
     obtain ⟨hun, hfr⟩ := hfr
     split at h
     ·rename_i ys' hT hc
      simp only [decide_eq_true_eq] at hT
      subst hT
      obtain ⟨he, hy⟩ := FN hc
      subst he
      simp only at hy
      subst hy
      split at h
      ·rename_i xs bs1 g hd
       simp only [Option.some.injEq] at h
       obtain ⟨rfl, rfl, rfl⟩ := h
       obtain ⟨u, hu, hat⟩ := B6 hi ht hl
       unfold Rep GK at hu
       rw [ho] at hu
       obtain ⟨hle, hu⟩ := hu
       have hid : ∀ (i : Nat) (c : Bnd) (id' : Nat), bs[i]? = some c → c.id? = some id' → (Bnd.cut id).id? ≠ some id' := by
        intro i c id' hic hcid h; simp only [Bnd.id?, Option.some.injEq] at h; subst h; exact Ig hfr i c hic hcid
       have hget : (E.heap ++ [Ob.arr T e' (DB n ys)])[E.heap.length]? = some (Ob.arr T e' (DB n ys)) := by simp
       obtain ⟨hsz, hob⟩ := hi.obj id _ ho
       have hnil : n = 0 → List.take (α := e'.den) n ys = [] := by rintro rfl; simp
       have hlen : List.length (α := e'.den) (DB n ys) = n := by unfold DB; rw [List.length_take]; omega
       cases hm : m id with
       | none =>
        rw [hm] at hob hu
        simp only at hob hu
        subst hob
        have h0 : n = 0 := by simpa using hle
        subst h0
        obtain ⟨a, rfl⟩ := hu
        refine obj (.cut id) (.arr T e' (DB 0 [])) none (.own E.heap.length) _ xs _ hat hid ?_ ?_ hd
        ·simp only [BN]
         exact ⟨T, e', [], 0, ho, ES hun, hget, .inl (by rw [Aq, hm])⟩
        ·unfold Rep
         rw [hget, Aq]
         exact ⟨a, rfl⟩
       | some p =>
        obtain ⟨b, cap⟩ := p
        rw [hm] at hob hu
        obtain ⟨a, rfl, ha⟩ := hu
        obtain ⟨vs, row, o1, o2, o3, o4, o5, o6⟩ := hob
        by_cases hcap : cap = 0
        ·subst hcap
         have h0 : n = 0 := by omega
         refine obj (.cut id) (.arr T e' (DB n ys)) none (.own E.heap.length) _ xs _ hat hid ?_ ?_ hd
         ·simp only [BN]
          exact ⟨T, e', ys, n, ho, ES hun, hget, .inr ⟨Aq .., hnil h0⟩⟩
         ·unfold Rep
          rw [hget, Aq]
          exact ⟨a, by rw [h0]⟩
        ·refine obj (.cut id) (.arr T e' (DB n ys)) (m id) (.own E.heap.length) _ xs _ hat hid ?_ ?_ hd
         ·simp only [BN]
          exact ⟨T, e', ys, n, ho, ES hun, hget, .inl (Aq ..)⟩
         ·unfold Rep Bb
          rw [hget, Aq, hm]
          have := ha (by omega)
          rw [this]
          simp [hlen]
      ·cases h
     ·cases h
    ·cases h
   ·cases h
  | box n =>
   simp only [dec] at h
   split at h
   ·rename_i id hl
    split at h
    ·rename_i cs ho hfr
     split at h
     ·rename_i hn
      simp only [decide_eq_true_eq] at hn
      obtain ⟨u, hu, hat⟩ := B6 hi ht hl
      obtain ⟨b, cc, vs, T, b1, b2, b3, b4⟩ := hi.obj id _ ho
      refine obj (.whole id) (.box (List.replicate n .junk)) (m id) (.ptr E.heap.length 0) u d fr hat (fun i c id' hic hcid => ?_) ?_ ?_ h
      ·rintro h; simp only [Bnd.id?, Option.some.injEq] at h; subst h; exact Ig hfr i c hic hcid
      ·simp only [BN]
       refine ⟨Aq .., .inr (.inr (.inl ⟨cs, List.replicate n .junk, b, cc, vs, T, ho, by simp, by simp [hn], b1, b2, ?_, b4⟩))⟩
       refine DU (by rw [Ar b3]; simp [hn]) fun i c v hc _ => ?_
       have := List.eq_of_mem_replicate (List.mem_of_getElem? hc)
       subst this
       unfold Rep; trivial
      ·unfold Rep GL at hu ⊢
       rw [ho] at hu
       rw [List.getElem?_append_right (Nat.le_refl _), Nat.sub_self, List.getElem?_cons_zero, Aq]
       exact hu
     ·cases h
    ·cases h
   ·cases h
  | map k v =>
   simp only [dec] at h
   split at h
   ·rename_i id hl
    split at h
    ·rename_i k' v' es ho hfr
     split at h
     ·rename_i es' hc
      obtain ⟨he, hy⟩ := FN hc
      cases he
      simp only at hy
      subst hy
      split at h
      ·rename_i xs bs1 g hd
       simp only [Option.some.injEq] at h
       obtain ⟨rfl, rfl, rfl⟩ := h
       obtain ⟨u, hu, hat⟩ := B6 hi ht hl
       refine obj (.whole id) (.map k v es) (m id) (.mp E.heap.length) u xs _ hat (fun i c id' hic hcid => ?_) ?_ ?_ hd
       ·rintro h; simp only [Bnd.id?, Option.some.injEq] at h; subst h; exact Ig hfr i c hic hcid
       ·simp only [BN]
        exact ⟨Aq .., .inr (.inl ⟨k, v, es, ho, by simp⟩)⟩
       ·unfold Rep Mf at hu ⊢
        rw [ho] at hu
        rw [List.getElem?_append_right (Nat.le_refl _), Nat.sub_self, List.getElem?_cons_zero, Aq]
        exact hu
      ·cases h
     ·cases h
    ·cases h
   ·cases h
  | own' j =>
   simp only [dec] at h
   split at h
   ·rename_i id id' hl hj
    split at h
    ·rename_i hid
     simp only [decide_eq_true_eq] at hid
     subst hid
     obtain ⟨u, hu, hat⟩ := B6 hi ht hl
     exact ref (.own j) u d fr hat (AX3 (hv.ob j _ hj) hu) h
    ·cases h
   ·cases h
  | ptr' j off =>
   simp only [dec] at h
   split at h
   ·rename_i id o id' hl hj
    split at h
    ·rename_i hid
     simp only [Bool.and_eq_true, decide_eq_true_eq] at hid
     obtain ⟨rfl, rfl⟩ := hid
     obtain ⟨u, hu, hat⟩ := B6 hi ht hl
     exact ref (.ptr j o) u d fr hat (AXV (hv.ob j _ hj) hu) h
    ·cases h
   ·cases h
  | sub' j =>
   simp only [dec] at h
   split at h
   ·rename_i id off n id' hl hj
    split at h
    ·rename_i hid
     simp only [decide_eq_true_eq] at hid
     subst hid
     split at h
     ·rename_i xs bs1 g hd
      simp only [Option.some.injEq] at h
      obtain ⟨rfl, rfl, rfl⟩ := h
      obtain ⟨u, hu, hat⟩ := B6 hi ht hl
      exact ref (.win j off n) u xs _ hat (AMv (hv.ob j _ hj) hu) hd
     ·cases h
    ·cases h
   ·cases h
  | win' j =>
   simp only [dec] at h
   split at h
   ·rename_i id n id' hl hj
    split at h
    ·rename_i hid
     simp only [decide_eq_true_eq] at hid
     subst hid
     split at h
     ·rename_i xs bs1 g hd
      simp only [Option.some.injEq] at h
      obtain ⟨rfl, rfl, rfl⟩ := h
      obtain ⟨u, hu, hat⟩ := B6 hi ht hl
      exact ref (.win j 0 n) u xs _ hat (AMv (hv.ob j _ hj) hu) hd
     ·cases h
    ·cases h
   ·rename_i id id' hl hj
    split at h
    ·rename_i T t ys hid ho
     simp only [decide_eq_true_eq] at hid
     subst hid
     split at h
     ·rename_i xs bs1 g hd
      simp only [Option.some.injEq] at h
      obtain ⟨rfl, rfl, rfl⟩ := h
      obtain ⟨u, hu, hat⟩ := B6 hi ht hl
      exact ref (.win j 0 ys.length) u xs _ hat (AMv (hv.ob j _ hj) (Aaf hi ho hu)) hd
     ·cases h
    ·cases h
   ·cases h
  | map' j =>
   simp only [dec] at h
   split at h
   ·rename_i id id' hl hj
    split at h
    ·rename_i hid
     simp only [decide_eq_true_eq] at hid
     subst hid
     obtain ⟨u, hu, hat⟩ := B6 hi ht hl
     exact ref (.mp j) u d fr hat (Aci (hv.ob j _ hj) hu) h
    ·cases h
   ·cases h
  | clo f ps =>
   simp only [dec] at h
   split at h
   ·rename_i f' vs hl
    split at h
    ·rename_i hc
     simp only [Bool.and_eq_true, decide_eq_true_eq] at hc
     obtain ⟨rfl, hc⟩ := hc
     obtain ⟨u, hu, hat⟩ := B6 hi ht hl
     unfold Rep at hu
     obtain ⟨cs, rfl, hr⟩ := hu
     exact ref (.clo f (ps.map fun p => .ptr p.1 p.2)) _ d fr hat (by unfold Rep; exact ⟨cs, rfl, AbU hv.ob vs ps cs.toList hc hr⟩) h
    ·cases h
   ·cases h
  | bnd f j =>
   simp only [dec] at h
   split at h
   ·rename_i f' id id' hl hj
    split at h
    ·rename_i hc
     simp only [Bool.and_eq_true, decide_eq_true_eq] at hc
     obtain ⟨rfl, rfl⟩ := hc
     obtain ⟨u, hu, hat⟩ := B6 hi ht hl
     unfold Rep at hu
     obtain ⟨cs, rfl, hr⟩ := hu
     refine ref (.bnd f [.own j]) _ d fr hat ?_ h
     unfold Rep
     refine ⟨cs, rfl, ?_⟩
     unfold Ae at hr ⊢
     obtain ⟨x, xs, e1, e2, e3⟩ := hr
     refine ⟨x, xs, e1, AX3 (hv.ob j _ hj) e2, ?_⟩
     unfold Ae at e3 ⊢
     exact e3
    ·cases h
   ·cases h
  | prs T j =>
   simp only [dec] at h
   split at h
   ·rename_i e' hl
    split at h
    ·rename_i xs bs1 g hd
     simp only [Option.some.injEq] at h
     obtain ⟨rfl, rfl, rfl⟩ := h
     obtain ⟨u, hu, hat⟩ := B6 hi ht hl
     unfold Rep at hu
     refine obj .none (.prs T j []) none (.own E.heap.length) u xs _ hat (fun _ _ _ _ _ => by simp [Bnd.id?]) ?_ ?_ hd
     ·simp only [BN]
      exact ⟨Aq .., .inr ⟨T, j, by simp⟩⟩
     ·unfold Rep Bb
      simp only [List.getElem?_append_right (Nat.le_refl _), Nat.sub_self, List.getElem?_cons_zero, Aq]
      exact ⟨_, hu⟩
    ·cases h
   ·rename_i id hl
    split at h
    ·rename_i T' tgt is tgt' ho hfr hj
     split at h
     ·rename_i hT
      simp only [Bool.and_eq_true, decide_eq_true_eq] at hT
      obtain ⟨rfl, rfl⟩ := hT
      split at h
      ·rename_i xs bs1 g hd
       simp only [Option.some.injEq] at h
       obtain ⟨rfl, rfl, rfl⟩ := h
       obtain ⟨u, hu, hat⟩ := B6 hi ht hl
       have hbj := hv.ob j _ hj
       have hob := hi.obj id _ ho
       have hcomp : Ck E.heap (E.heap ++ [.prs T j is]) m' (upd m' E.heap.length (m id)) := by
        intro i x hi hf
        have hlt := Av hi
        rcases Ck.refl E.heap m' i x hi hf with h | ⟨hd, o', h4, h5, _⟩
        ·exact .inl (by rw [List.getElem?_append_left hlt]; exact h)
        ·exact .inr ⟨hd, o', by rw [List.getElem?_append_left hlt]; exact h4, h5, BO (by omega)⟩
       have hob' : ObI w F (upd m' E.heap.length (m id)) (E.heap ++ [.prs T j is]) (.prs T j is) (m id) := by
        cases hm : m id with
        | none => rw [hm] at hob; exact hob
        | some p =>
         obtain ⟨b, cap⟩ := p
         rw [hm] at hob hcomp
         obtain ⟨vs, us, e1, e2, e3, e4, e5, e6⟩ := hob
         exact ⟨vs, us, e1, e2, e3, e4, Ae.mono (fun _ _ => rfl) (fun _ h => h) hcomp _ (AaU hbj e5), e6⟩
       refine obj (.whole id) (.prs T j is) (m id) (.own E.heap.length) u xs _ hat (fun i c id' hic hcid => ?_) ?_ ?_ hd
       ·rintro h; simp only [Bnd.id?, Option.some.injEq] at h; subst h; exact Ig hfr i c hic hcid
       ·simp only [BN]
        exact ⟨Aq .., .inr (.inr (.inr ⟨T, tgt, j, is, ho, by simp, hob'⟩))⟩
       ·unfold Rep at hu ⊢
        rw [ho] at hu
        rw [List.getElem?_append_right (Nat.le_refl _), Nat.sub_self, List.getElem?_cons_zero, Aq]
        exact hu
      ·cases h
     ·cases h
    ·cases h
   ·cases h
  | nil e =>
   simp only [dec] at h
   cases hl : look tm H bs l with
   | none => rw [hl] at h; cases h
   | some v =>
    rw [hl] at h
    cases v with
    | nils e' =>
     obtain ⟨u, hu, hat⟩ := B6 hi ht hl
     exact ref (.nils e) u d fr hat (by unfold Rep at *; exact hu) h
    | _ => cases h
end
end Go.Pev
end
section
namespace Go.Pev
open Go.RowKit
structure Su (np : Nat) (w : World) (F : Nat → Prop) (m : Mp) (H : List Ob) (fz : List Bool) (w' : World) (F' : Nat → Prop) (m' : Mp) (H' : List Ob) (fz' : List Bool) : Prop where
 os : w'.os = w.os
 tape : w'.tape = w.tape
 output : w'.output = w.output
 size : w.heap.size ≤ w'.heap.size
 keep : ∀ b, b < w.heap.size → (∀ i c, owned H fz i → m i ≠ some (b, c)) → w'.heap[b]? = w.heap[b]?
 sub : ∀ b, F b → F' b
 bnd : ∀ b, F' b → F b ∨ (∃ i c, owned H fz i ∧ m i = some (b, c)) ∨ w.heap.size ≤ b
 own : ∀ i b c, owned H' fz' i → m' i = some (b, c) → (∃ i c, owned H fz i ∧ m i = some (b, c)) ∨ w.heap.size ≤ b
 comp : ∀ i o, i < np → H[i]? = some o → o ≠ .free → H'[i]? = some .dead ∨ (o ≠ .dead ∧ ∃ o', H'[i]? = some o' ∧ sameShape o o' ∧ m' i = m i)
theorem Ext.toN {w w' : World} {F F' : Nat → Prop} {m m' : Mp} {H H' : List Ob} {fz fz' : List Bool} (h : Ext w F m H fz w' F' m' H' fz') (np : Nat) : Su np w F m H fz w' F' m' H' fz' :=
 ⟨h.os, h.tape, h.output, h.size, h.keep, h.sub, h.bnd, h.own, fun i o _ => h.comp i o⟩
theorem Su.refl (np : Nat) (w : World) (F : Nat → Prop) (m : Mp) (H : List Ob) (fz : List Bool) : Su np w F m H fz w F m H fz := (Ext.refl ..).toN np
theorem Su.trans {np : Nat} {w w1 w2 : World} {F F1 F2 : Nat → Prop} {m m1 m2 : Mp} {H H1 H2 : List Ob} {fz fz1 fz2 : List Bool}
  (h : Su np w F m H fz w1 F1 m1 H1 fz1) (k : Su np w1 F1 m1 H1 fz1 w2 F2 m2 H2 fz2) : Su np w F m H fz w2 F2 m2 H2 fz2 where
 os := k.os.trans h.os
 tape := k.tape.trans h.tape
 output := k.output.trans h.output
 size := Nat.le_trans h.size k.size
 keep b hb hn := by
  rw [k.keep b (Nat.lt_of_lt_of_le hb h.size) ?_, h.keep b hb hn]
  intro i c ho he
  rcases h.own i b c ho he with ⟨i', c', h1, h2⟩ | h1
  ·exact hn i' c' h1 h2
  ·omega
 sub b hb := k.sub b (h.sub b hb)
 bnd b hb := by
  rcases k.bnd b hb with h1 | ⟨i, c, h1, h2⟩ | h1
  ·exact h.bnd b h1
  ·rcases h.own i b c h1 h2 with h3 | h3
   ·exact .inr (.inl h3)
   ·exact .inr (.inr h3)
  ·exact .inr (.inr (Nat.le_trans h.size h1))
 own i b c h1 h2 := by
  rcases k.own i b c h1 h2 with ⟨i', c', h3, h4⟩ | h3
  ·exact h.own i' b c' h3 h4
  ·exact .inr (Nat.le_trans h.size h3)
 comp i o hlt ho hf := by
  rcases h.comp i o hlt ho hf with h1 | ⟨hd, o', h1, h2, h3⟩
  ·rcases k.comp i _ hlt h1 (by simp) with h4 | ⟨h5, _⟩
   ·exact .inl h4
   ·exact absurd rfl h5
  ·have hf' : o' ≠ .free := by rintro rfl; cases o <;> simp [sameShape] at h2
   rcases k.comp i o' hlt h1 hf' with h4 | ⟨_, o'', h4, h5, h6⟩
   ·exact .inl h4
   ·exact .inr ⟨hd, o'', h4, h2.trans h5, h6.trans h3⟩
section
variable {w : World} {F : Nat → Prop} {m : Mp} {H : List Ob} {fz : List Bool} {bs : List Bnd} {m' : Mp} {E : St} {val : Nat → Value}
theorem Inv.src (h : Inv w F m H fz bs m' E val) {i b c : Nat} (ho : owned E.heap E.frz i) (hm : m' i = some (b, c)) : ∃ x id, bs[i]? = some x ∧ x.id? = some id ∧ owned H fz id ∧ m id = some (b, c) := by
 obtain ⟨o, hio, _, _⟩ := C5 ho
 have hlt := Av hio
 rw [h.lenH] at hlt
 have hx : bs[i]? = some bs[i] := List.getElem?_eq_getElem hlt
 have hb := h.ob i _ hx
 cases hc : bs[i] with
 | none => rw [hc] at hb; simp only [BN] at hb; rw [hb.1] at hm; cases hm
 | whole id =>
  rw [hc] at hb hx
  simp only [BN] at hb
  obtain ⟨e, hb⟩ := hb
  refine ⟨_, id, hx, rfl, ?_, by rw [← e]; exact hm⟩
  unfold owned
  rcases hb with ⟨T, t, xs, a1, _, a3⟩ | ⟨k, v, es, a1, _⟩ | ⟨cs, cs', b, c, vs, T, a1, _⟩ | ⟨_, _, _, _, a1, _⟩
  ·rw [a1]; exact a3
  ·rw [a1]; trivial
  ·rw [a1]; trivial
  ·rw [a1]; trivial
 | cut id =>
  rw [hc] at hb hx
  simp only [BN] at hb
  obtain ⟨T, t, xs, n, a1, a2, a3, a4⟩ := hb
  refine ⟨_, id, hx, rfl, by unfold owned; rw [a1]; exact a2, ?_⟩
  rcases a4 with a4 | ⟨a4, _⟩
  ·rw [← a4]; exact hm
  ·rw [a4] at hm; cases hm
theorem Inv.hi (hi : HI w F m H fz) (h : Inv w F m H fz bs m' E val) : HI w F m' E.heap E.frz where
 obj j o hj := by
  have hlt := Av hj
  rw [h.lenH] at hlt
  have hx : bs[j]? = some bs[j] := List.getElem?_eq_getElem hlt
  have hb := h.ob j _ hx
  cases hc : bs[j] with
  | none =>
   rw [hc] at hb
   simp only [BN] at hb
   obtain ⟨e1, ⟨T, e, e2, e3⟩ | ⟨T, t, e2⟩⟩ := hb
   ·rw [hj] at e2; cases e2
    exact ⟨e3, by rw [e1]⟩
   ·rw [hj] at e2; cases e2
    rw [e1]
    exact (rfl : ([] : List Int) = [])
  | whole id =>
   rw [hc] at hb
   simp only [BN] at hb
   obtain ⟨e, hb⟩ := hb
   rcases hb with ⟨T, t, xs, a1, a2, a3⟩ | ⟨k, v, es, a1, a2⟩ | ⟨cs, cs', b, c, vs, T, a1, a2, _, a4, a5, a6, a7⟩ | ⟨T, tgt, j0, is, a1, a2, a3⟩
   ·rw [hj] at a2; cases a2
    rw [e]; exact hi.obj id _ a1
   ·rw [hj] at a2; cases a2
    rw [e]; exact hi.obj id _ a1
   ·rw [hj] at a2; cases a2
    exact ⟨b, c, vs, T, e.trans a4, a5, a6, a7⟩
   ·rw [hj] at a2; cases a2
    rw [e]; exact a3
  | cut id =>
   rw [hc] at hb
   simp only [BN] at hb
   obtain ⟨T, t, xs, n, a1, a2, a3, a4⟩ := hb
   rw [hj] at a3; cases a3
   obtain ⟨h0, h1⟩ := hi.obj id _ a1
   refine ⟨h0, ?_⟩
   rcases a4 with a4 | ⟨a4, a5⟩
   ·rw [a4]
    cases hm : m id with
    | none =>
     rw [hm] at h1
     simp only at h1 ⊢
     rw [h1]; simp
    | some p =>
     obtain ⟨b, cap⟩ := p
     rw [hm] at h1
     simp only at h1 ⊢
     obtain ⟨vs, row, b1, b2, b3, b4, b5, b6⟩ := h1
     refine ⟨vs, row.take (n * t.size), b1, ?_, b3, b4, Eu (fun x cs hx => Dat.length t hx) n b5, ?_⟩
     ·rw [List.length_take]; omega
     ·rw [List.length_take, ← List.take_take, b6]
   ·rw [a4]; exact a5
 sep i j b c b' c' h1 h2 hij h3 h4 := by
  obtain ⟨x, id, k1, k2, k3, k4⟩ := h.src h1 h3
  obtain ⟨y, id', l1, l2, l3, l4⟩ := h.src h2 h4
  refine hi.sep id id' b c b' c' k3 l3 ?_ k4 l4
  rintro rfl
  exact hij (h.inj i j x y id k1 l1 k2 l2)
 off i b c h1 h2 := by
  obtain ⟨x, id, k1, k2, k3, k4⟩ := h.src h1 h2
  exact hi.off id b c k3 k4
 froz i T t xs b c h1 h2 := by rw [h.frz i] at h2; cases h2
 lt := hi.lt
 len := h.lenF.symm
theorem AJl : ∀ (n i : Nat) (bs : List Bnd), pins n i bs = true → ∀ k, k < n → bs[k]? = some (.whole (i + k)) := by
 intro n
 induction n with
 | zero => intro i bs _ k hk; omega
 | succ n ih =>
  intro i bs h k hk
  cases bs with
  | nil => simp [pins] at h
  | cons b bs =>
   simp only [pins, Bool.and_eq_true, decide_eq_true_eq] at h
   cases k with
   | zero => simp [h.1]
   | succ k =>
    have := ih (i + 1) bs h.2 k (by omega)
    simp only [List.getElem?_cons_succ]
    rw [this]; congr 2; omega
theorem Inv.blank {val : Nat → Value} (n : Nat) : Inv w F m H fz [] (fun _ => none) (Pev.blank n) val where
 tmps t := by
  have : (Pev.blank n).tmps.getD t .junk = .junk := by
   simp only [Pev.blank, List.getD_eq_getElem?_getD, List.getElem?_replicate]
   split <;> rfl
  rw [this]; unfold Rep; trivial
 lenH := rfl
 lenF := rfl
 frz i := by simp [Pev.blank]
 ob j b h := by simp at h
 inj i j b c id h := by simp at h
theorem AOK (st : St) (v : AV) (l : Loc) : (place st v l).tmps.length = st.tmps.length := by
 cases l with
 | tmp t => simp [place]
 | cell j c => simp only [place]; split <;> rfl
 | cap t i => rfl
 | obj j => rfl
theorem AZT : ∀ (its : AE) (d : CO (leaves its)) (st : St), (enc its d st).tmps.length = st.tmps.length := by
 intro its
 induction its with
 | nil => intro d st; rfl
 | cons p r ih =>
  intro d st
  obtain ⟨l, c⟩ := p
  cases c <;> exact (ih _ _).trans (AOK _ _ _)
theorem Kl (n : Nat) (its : AE) (d : CO (leaves its)) : (encode n its d).tmps.length = n := by
 unfold encode; rw [AZT]; simp [blank]
theorem AT6 {F2 : Nat → Prop} {fz2 : List Bool} {np : Nat} (h : Inv w F2 m H fz2 bs m' E val) (hp : pins np 0 bs = true) : ∀ i o, i < np → H[i]? = some o → o ≠ .free → E.heap[i]? = some .dead ∨ (o ≠ .dead ∧ ∃ o', E.heap[i]? = some o' ∧ sameShape o o' ∧ m' i = m i) := by
 intro i o hlt ho hf
 have h1 := AJl np 0 bs hp i hlt
 rw [Nat.zero_add] at h1
 have hb := h.ob i _ h1
 simp only [BN] at hb
 obtain ⟨e, hb⟩ := hb
 right
 rcases hb with ⟨T, t, xs, a1, a2, a3⟩ | ⟨k, v, es, a1, a2⟩ | ⟨cs, cs', b, c, vs, T, a1, a2, _, a4, a5, a6, a7⟩ | ⟨_, _, _, _, a1, a2, _⟩
 ·rw [ho] at a1; cases a1; exact ⟨by simp, _, a2, ⟨rfl, rfl⟩, e⟩
 ·rw [ho] at a1; cases a1; exact ⟨by simp, _, a2, trivial, e⟩
 ·rw [ho] at a1; cases a1; exact ⟨by simp, _, a2, trivial, e⟩
 ·rw [ho] at a1; cases a1; exact ⟨by simp, _, a2, rfl, e⟩
theorem Sa {np nt : Nat} {st : St} {a : Act} {its : AE} {v : CO (leaves its)} (hs : SI w F m st a) (h : decode np nt st its = some v) :
  ∃ F' m', SI w F' m' (encode nt its v) a ∧ Su np w F m st.heap st.frz w F' m' (encode nt its v).heap (encode nt its v).frz := by
 unfold decode at h
 split at h
 ·rename_i hn
  simp only [decide_eq_true_eq] at hn
  split at h
  ·rename_i v' bs fr hd
   split at h
   ·rename_i hp
    simp only [Option.some.injEq] at h; subst h
    obtain ⟨F2, m2, hg, hv, _⟩ := AQo (val := fun t => a.tmps.getD t undef) its st.frz [] F (fun _ => none) (blank nt) v' bs fr hs.heap
     (fun t v ht => by have := hs.tmps t; rw [List.getD_eq_getElem?_getD, ht] at this; exact this) (Inv.blank nt) hd
    refine ⟨F2, m2, ⟨hv.tmps, by rw [Kl, ← hn]; exact hs.size, hv.hi hg.2, hs.defers⟩, ?_⟩
    refine ⟨rfl, rfl, rfl, Nat.le_refl _, fun _ _ _ => rfl, hg.1.sub, hg.1.bnd, fun i b c h1 h2 => ?_, AT6 hv hp⟩
    obtain ⟨x, id, k1, k2, k3, k4⟩ := hv.src h1 h2
    exact hg.1.own id b c k3 k4
   ·cases h
  ·cases h
 ·cases h
end
end Go.Pev
end
