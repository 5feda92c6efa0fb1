/- A part of the proofs of this seat: PevOps6 PevOps7 PevOps8 PevOps9 PevOps10 PevKeep PevPrs PevOps12 PevMore PevKeys PevKeys2 PevOps11 PevCode PevLocal PevDraw PevDraw2 PevDec PevDec2. -/
import Derived.Test.YtaamkoofmojajaaGreatPf0d5628f3f
import Derived.IntWalk
import Derived.Laws.StructEq
import Derived.Laws.BytesArg
set_option linter.unusedVariables false
set_option linter.unusedSimpArgs false
set_option linter.unusedSectionVars false
section
namespace Go.Pev
open Go.RowKit
section
variable {P : Program} {E : Env}
theorem Gz {w : World} {F : Nat → Prop} {m : Mp} {H : List Ob} {fz : List Bool} (hi : HI w F m H fz) {slot : Nat} (hf : A3 H fz slot = true) (T : TypeId) {t : Ty} (ht : 0 < t.size) (a : Option Addr) :
  ∃ m', Av w F m H fz w F m' (H.set slot (.arr T t [])) fz ∧ Rep w F m' (H.set slot (.arr T t [])) (.own slot) (.slice a 0 0) := by
 have hg := Av.new (w' := w) hi hf (ob := .arr T t []) trivial none rfl rfl rfl (Nat.le_refl _) (fun _ _ => rfl) (fun b c h => by cases h) (fun _ => ⟨ht, rfl⟩)
 refine ⟨_, hg, ?_⟩
 unfold Rep
 have hlt := As (BU hf).1
 rw [BP hlt, Ap]
 exact ⟨a, rfl⟩
theorem TD {w : World} {T e : TypeId} {i : TypeInfo} (hu : P.underlying T = some (.slice e)) (hi : P.info? e = some i) (a : Option Addr) (len cap : Nat) (k k' : IntKind) :
  (Instr.sliceAt T (.slice a len cap) none (some (.int k 0)) (some (.int k' 0))).run P w = .ok (.slice a 0 0) w := by
 simp [Instr.sliceAt, run_underlying hu, Instr.slice, Instr.sliceBounds, Instr.sliceBound, asIntOf, run_sizeOf hi]
theorem AEi {w : World} {F : Nat → Prop} {m : Mp} {H : List Ob} {v : AV} (h : Em H v = true) {u : Value} (hr : Rep w F m H v u) : ∃ a len cap, u = .slice a len cap := by
 cases v with
 | data t d =>
  cases t <;> simp only [Em, Bool.false_eq_true] at h
  rename_i t
  have hrx : Dat w F (.slice t) d [u] := hr
  obtain ⟨a, cap, e1, _⟩ := hrx
  simp only [List.cons.injEq, and_true] at e1
  exact ⟨_, _, _, e1⟩
 | nils e => unfold Rep at hr; exact ⟨_, _, _, hr⟩
 | own id =>
  obtain ⟨T, t, xs, ho⟩ := DN h
  unfold Rep at hr; rw [ho] at hr
  cases hm : m id with
  | none => rw [hm] at hr; obtain ⟨a, e1⟩ := hr; exact ⟨_, _, _, e1⟩
  | some p => rw [hm] at hr; exact ⟨_, _, _, hr⟩
 | win id off n =>
  obtain ⟨T, t, xs, ho⟩ := DN h
  unfold Rep at hr; rw [ho] at hr
  obtain ⟨_, hr⟩ := hr
  cases hm : m id with
  | none => rw [hm] at hr; obtain ⟨a, e1⟩ := hr; exact ⟨_, _, _, e1⟩
  | some p => rw [hm] at hr; obtain ⟨a, e1, _⟩ := hr; exact ⟨_, _, _, e1⟩
 | _ => simp [Em] at h
theorem TV (T : TypeId) (x : Operand) (lo up : Option Operand) (mx : Operand) : Claim P E (.slice T x lo up (some mx)) := by
 intro R ty ρ H fz slot k r h
 simp only [evalOp] at h
 split at h
 ·rename_i e hu
  split at h
  ·rename_i e' t hl hh hm hsl
   obtain ⟨hu', hty', hpos⟩ := DI hsl
   split at h
   ·rename_i n hx hs
    split at h
    ·rename_i hf
     refine ⟨_, _, h, fun R' k' => by simp only [evalOp, hu, hl, hh, hm, hsl, hx, hs, hf], BB fun w F m ρc o hop hty hi hr => ?_⟩
     obtain ⟨i, hi0, _⟩ := BQ hs
     have hslice := AEi hx (hr x)
     obtain ⟨a, len, cap, e1⟩ := hslice
     have hlo : lo.map ρc = none := by
      rcases KK hr hl with ⟨h1, _⟩ | ⟨_, _, _, h2⟩
      ·exact h1
      ·cases h2
     have hup : ∃ k, up.map ρc = some (.int k 0) := by
      rcases KK hr hh with ⟨_, h2⟩ | ⟨k, n, h1, h2⟩
      ·cases h2
      ·cases h2; exact ⟨k, h1⟩
     obtain ⟨k1, hup⟩ := hup
     obtain ⟨k2, hmx⟩ := Xq hm (hr mx)
     have hrun := TD (P := P) (w := w) hu hi0 a len cap k1 k2
     obtain ⟨m', hg, hrep⟩ := Gz hi hf e hpos a
     exact ⟨_, w, F, m', by simp [execOp, hop, e1, hlo, hup, hmx, hrun], hg, hrep⟩
    ·cases h
   ·cases h
  ·cases h
 ·cases h
theorem OF {T : TypeId} {f off size : Nat} {ag : Bool} (h : fieldAt P T f = some (off, size, ag)) : ∃ fs fd i, P.underlying T = some (.struct fs) ∧ fs[f]? = some fd ∧ P.info? fd.type = some i ∧ fd.offset = off ∧ i.size = size ∧ Df P fd.type = some ag := by
 unfold fieldAt at h
 split at h
 ·rename_i fs hu
  split at h
  ·rename_i fd hf
   split at h
   ·rename_i i ag' hi ha
    simp only [Option.some.injEq, Prod.mk.injEq] at h
    obtain ⟨rfl, rfl, rfl⟩ := h
    exact ⟨fs, fd, i, hu, hf, hi, rfl, rfl, ha⟩
   ·cases h
  ·cases h
 ·cases h
theorem Hs {w : World} {T : TypeId} {f off size : Nat} {ag : Bool} (h : fieldAt P T f = some (off, size, ag)) (hs : size ≠ 0) (a : Addr) : (Instr.fieldAt T (.pointer (some a)) f).run P w = .ok (.pointer (some (a.add off))) w := by
 obtain ⟨fs, fd, i, hu, hf, hi, rfl, rfl, ha⟩ := OF h
 simp [Instr.fieldAt, run_underlying hu, hf, Instr.sureAddr, fieldPlace, run_sizeOf hi, hs]
theorem TZ (T : TypeId) (x : Operand) (f : Nat) : Claim P E (.fieldAddr T x f) := by
 intro R ty ρ H fz slot k r h
 simp only [evalOp] at h
 split at h
 ·cases h
 ·rename_i off size ag hf
  split at h
  ·cases h
  ·rename_i hs
   simp only [decide_eq_false_iff_not] at hs
   split at h
   ·rename_i id o' hx
    split at h
    ·rename_i hl
     obtain ⟨cs, ho⟩ := I5 hl
     refine ⟨_, _, h, fun R' k' => by simp only [evalOp, hf, hs, decide_false, hx, hl], AX fun w F m ρc o hop hty hi hr => ?_⟩
     obtain ⟨b, c, vs, T, e1, e2, _⟩ := Oa hi ho (hx ▸ hr x)
     refine ⟨.pointer (some ⟨b, o' + off, none⟩), by simp [execOp, hop, e2, Hs hf hs, Ct], ?_⟩
     unfold Rep; rw [ho]; exact ⟨b, c, e1, rfl⟩
    ·cases h
   ·rename_i id i s hx
    split at h
    ·rename_i hl
     obtain ⟨T', t, xs, ho⟩ := DN hl
     refine ⟨_, _, h, fun R' k' => by simp only [evalOp, hf, hs, decide_false, hx, hl], AX fun w F m ρc o hop hty hi hr => ?_⟩
     obtain ⟨b, c, vs, row, e1, e2, e3, _⟩ := Le hi ho (hx ▸ hr x)
     refine ⟨.pointer (some ⟨b, i * t.size + s + off, none⟩), by simp [execOp, hop, e2, Hs hf hs, Ct], ?_⟩
     unfold Rep; rw [ho]; exact ⟨e3, b, c, e1, by rw [Nat.add_assoc]⟩
    ·cases h
   ·rename_i cs hx
    refine ⟨_, _, h, fun R' k' => by simp only [evalOp, hf, hs, decide_false, hx], AX fun w F m ρc o hop hty hi hr => ?_⟩
    have hrx := hr x
    rw [hx] at hrx
    unfold Rep at hrx
    obtain ⟨ad, us, e1, e2, e3, e4, e5⟩ := hrx
    refine ⟨.pointer (some (ad.add off)), by simp [execOp, hop, e1, Hs hf hs], ?_⟩
    unfold Rep
    exact ⟨ad.add off, us.drop off, rfl, fun hne => by rw [Lf]; exact e2 (by rintro rfl; simp at hne), ED e3 off, fun u hu => e4 u (List.mem_of_mem_drop hu), fun j u hu => by
     rw [add_add]; rw [List.getElem?_drop] at hu; exact e5 _ u hu⟩
   ·cases h
theorem AGw {w : World} {F : Nat → Prop} {m : Mp} {H : List Ob} {T : TypeId} {i : TypeInfo} {ag : Bool} (hi : P.info? T = some i) (ha : Df P T = some ag) {cs : List AV} {v : AV} {us : Array Value} {off : Nat}
  (hl : loadCells ag i.size (cs.drop off) = some v) (hr : AZ w F m H cs us.toList) (h1 : ∀ u ∈ us.toList, u.oneCell' = true) : ∃ u, (part T us off).run P w = .ok u w ∧ Rep w F m H v u := by
 unfold loadCells at hl
 cases ag with
 | true =>
  simp only at hl
  split at hl
  ·rename_i hle
   simp only [Option.some.injEq] at hl; subst hl
   refine ⟨.agg (us.extract off (off + i.size)), by simp [part, B6 ha, run_sizeOf hi], ?_⟩
   unfold Rep
   refine ⟨_, rfl, ?_, ?_⟩
   ·rw [Array.toList_extract, List.extract_eq_take_drop, show off + i.size - off = i.size from by omega]
    exact Lg (ED hr off) _
   ·intro u hu
    rw [Array.toList_extract, List.extract_eq_take_drop] at hu
    exact h1 u (List.mem_of_mem_drop (List.mem_of_mem_take hu))
  ·cases hl
 | false =>
  simp only at hl
  have hg : cs[off]? = some v := by
   rw [List.head?_drop] at hl; exact hl
  obtain ⟨u, h2, h3⟩ := B5 hr hg
  refine ⟨u, ?_, h3⟩
  have : us[off]? = some u := by simpa using h2
  simp [part, B6 ha, this]
theorem AJ2 (T : TypeId) (x : Operand) (f : Nat) : Claim P E (.field T x f) := by
 intro R ty ρ H fz slot k r h
 simp only [evalOp] at h
 split at h
 ·cases h
 ·rename_i off size ag hf
  split at h
  ·rename_i cs hc hag
   split at h
   ·rename_i v hl
    refine ⟨_, _, h, fun R' k' => by simp only [evalOp, hf, hc, hag, hl], AX fun w F m ρc o hop hty hi hr => ?_⟩
    obtain ⟨fs, fd, i, hu, hfd, hi0, rfl, rfl, ha⟩ := OF hf
    obtain ⟨vs, e1⟩ := Oc hag (hr x)
    have hrc := cells?_ok hc (hr x)
    have h1 := cells?_one hc (hr x)
    rw [e1] at hrc h1
    obtain ⟨u, q1, q2⟩ := AGw (P := P) hi0 ha hl hrc h1
    refine ⟨u, ?_, q2⟩
    simp only [Value.cells] at q1
    simp [execOp, hop, e1, Instr.field, run_underlying hu, hfd, Go.asAgg, q1]
   ·cases h
  ·cases h
theorem AAR (x : Operand) (i : Nat) : Claim P E (.extract x i) := by
 intro R ty ρ H fz slot k r h
 simp only [evalOp] at h
 split at h
 ·rename_i vs hx
  split at h
  ·rename_i v hv
   refine ⟨_, _, h, fun R' k' => by simp only [evalOp, hx, hv], AX fun w F m ρc o hop hty hi hr => ?_⟩
   have hrx := hr x
   rw [hx] at hrx
   unfold Rep at hrx
   obtain ⟨us, e1, e2⟩ := hrx
   obtain ⟨u, h1, h2⟩ := B5 e2 hv
   exact ⟨u, by
    have : us[i]? = some u := by simpa using h1
    simp [execOp, hop, e1, Instr.extract, this], h2⟩
  ·cases h
 ·cases h
end
end Go.Pev
end
section
namespace Go.Pev
open Go.RowKit
section
variable {P : Program} {E : Env}
theorem AJg {T : TypeId} {size : Nat} {ag : Bool} (h : elemAt P T = some (size, ag)) : ∃ n e i, P.underlying T = some (.array n e) ∧ P.info? e = some i ∧ i.size = size ∧ Df P e = some ag := by
 unfold elemAt at h
 split at h
 ·rename_i n e hu
  split at h
  ·rename_i i ag' hi ha
   simp only [Option.some.injEq, Prod.mk.injEq] at h
   obtain ⟨rfl, rfl⟩ := h
   exact ⟨n, e, i, hu, hi, rfl, ha⟩
  ·cases h
 ·cases h
theorem AAK {x : Operand} {s : ByteArray} (h : YW x = some s) : x = .const (.string s) := by
 unfold YW at h
 split at h
 ·simp only [Option.some.injEq] at h; subst h; rfl
 ·cases h
theorem AJ1 (T : TypeId) (x y : Operand) : Claim P E (.index T x y) := by
 intro R ty ρ H fz slot k r h
 simp only [evalOp] at h
 split at h
 ·rename_i s hcs
  split at h
  ·rename_i j i hu hy
   split at h
   ·rename_i b hb
    refine ⟨_, _, h, fun R' k' => by simp only [evalOp, hcs, hu, hy, hb], fun w F m a o next Q hop hty hi hr hn => ?_⟩
    have e2 := A9 (hy ▸ hr y)
    have hx := AAK hcs
    subst hx
    rw [idx_eq] at hb
    unfold Lr at hb
    split at hb
    ·cases hb
    ·rename_i hi0
     have hi1 : (0 : Int) ≤ i := Int.not_lt.1 hi0
     have he : a.eval (.const (.string s)) = .string s := rfl
     have hrun : (execOp a.eval o).run P w = .ok (.value (.int .u8 b)) w := by
      have hb' : s[i.toNat]? = some (UInt8.ofNat b.toNat) ∧ ((UInt8.ofNat b.toNat).toNat : Int) = b := by
       unfold bytesOf at hb
       rw [List.getElem?_map, Option.map_eq_some_iff] at hb
       obtain ⟨c, h1, rfl⟩ := hb
       have e : UInt8.ofNat (c.toNat : Int).toNat = c := by simp
       rw [e]
       refine ⟨?_, rfl⟩
       rw [Array.getElem?_toList] at h1
       have hlt : i.toNat < s.data.size := by
        rcases Nat.lt_or_ge i.toNat s.data.size with h' | h'
        ·exact h'
        ·rw [Array.getElem?_eq_none h'] at h1; cases h1
       rw [Array.getElem?_eq_getElem hlt] at h1
       simp only [Option.some.injEq] at h1
       have hlt2 : i.toNat < s.size := hlt
       rw [getElem?_pos s i.toNat hlt2]
       exact congrArg some h1
      have h2 := hb'.2
      generalize UInt8.ofNat b.toNat = c at hb' h2
      subst h2
      simp [execOp, hop, e2, he, Instr.index, asIntOf, run_underlying hu, hi1, hb'.1]
     unfold Oper.wp
     rw [hrun]
     have := hn (.int .u8 b) w F m (Av.refl hi) (Ar _ _)
     exact this
   ·cases h
  ·cases h
 ·rename_i hcs
  split at h
  ·rename_i size ag n e j i he hu hy
   split at h
   ·rename_i hd
    split at h
    ·rename_i cs hc hag
     split at h
     ·rename_i v hl
      refine ⟨_, _, h, fun R' k' => by simp only [evalOp, hcs, he, hu, hy, hd, hc, hag, hl], AX fun w F m ρc o hop hty hi hr => ?_⟩
      obtain ⟨n', e', i', hu', hi0, rfl, ha⟩ := AJg he
      rw [hu] at hu'; cases hu'
      simp only [decide_eq_true_eq] at hd
      obtain ⟨vs, e1⟩ := Oc hag (hr x)
      have e2 := A9 (hy ▸ hr y)
      have hrc := cells?_ok hc (hr x)
      have h1 := cells?_one hc (hr x)
      rw [e1] at hrc h1
      obtain ⟨u, q1, q2⟩ := AGw (P := P) hi0 ha hl hrc h1
      refine ⟨u, ?_, q2⟩
      simp only [Value.cells] at q1
      have hd1 : 0 ≤ i := hd.1
      have hd2 : i < (n : Int) := hd.2
      simp [execOp, hop, e1, e2, Instr.index, asIntOf, run_underlying hu, hd1, hd2, run_sizeOf hi0, q1]
     ·cases h
    ·cases h
   ·cases h
  ·cases h
theorem Dj {w : World} {T e : TypeId} {i : TypeInfo} (hu : P.underlying T = some (.slice e)) (hi : P.info? e = some i) (ad : Addr) (len cap : Nat) (k : IntKind) {n : Int} (h0 : 0 ≤ n) (h1 : n < len) :
  (Instr.indexAt T (.slice (some ad) len cap) (.int k n)).run P w = .ok (.pointer (some (ad.add (n.toNat * i.size)))) w := by
 simp [Instr.indexAt, asIntOf, run_underlying hu, h0, h1, run_sizeOf hi]
theorem B4 {w w' : World} {ρc : Operand → Value} {o : Oper} {T : TypeId} {x y : Operand} {v n u : Value} (hop : o.op = .indexAddr T x y) (e1 : ρc x = v) (e2 : ρc y = n)
  (hrun : (Instr.indexAt T v n).run P w = .ok u w') : (execOp ρc o).run P w = .ok (.value u) w' := by simp [execOp, hop, e1, e2, hrun]
theorem TY (T : TypeId) (x y : Operand) : Claim P E (.indexAddr T x y) := by
 intro R ty ρ H fz slot k r h
 simp only [evalOp] at h
 split at h
 ·rename_i e j i hu hy
  split at h
  ·rename_i t xs hx
   split at h
   ·rename_i hsz
    split at h
    ·rename_i d hd
     refine ⟨_, _, h, fun R' k' => by simp only [evalOp, hu, hy, hx, hsz, hd], AX fun w F m ρc o hop hty hi hr => ?_⟩
     simp only [decide_eq_true_eq] at hsz
     obtain ⟨i', hi0, hsz'⟩ := BQ hsz
     obtain ⟨a1, a2, a3⟩ := An hd
     have hrx := hr x
     rw [hx] at hrx
     have hrx : Dat w F (.slice t) xs [ρc x] := hrx
     obtain ⟨a, cap, e1, e2, e3⟩ := hrx
     simp only [List.cons.injEq, and_true] at e1
     have hne : xs ≠ [] := by rintro rfl; simp at a3
     obtain ⟨ad, row, rfl, q2, q3, q4⟩ := e3 hne
     have hk := fun (x : t.den) cs (h : Dat w F t x cs) => Dat.length t h
     have hg := VZ hk q3 a3
     refine ⟨_, B4 hop e1 (A9 (hy ▸ hr y)) (Dj hu hi0 ad _ cap j a1 a2), ?_⟩
     unfold Rep
     refine ⟨_, (row.drop (i.toNat * t.size)).take t.size, rfl, fun _ => by rw [Lf]; exact q2, G1 t hg, Dat.HT t hg, fun k u hu' => ?_⟩
     rw [add_add, hsz']
     rw [List.getElem?_take] at hu'
     split at hu'
     ·rw [List.getElem?_drop] at hu'
      exact q4 _ u hu'
     ·cases hu'
    ·cases h
   ·cases h
  ·rename_i id hx
   split at h
   ·rename_i T' t xs ho
    split at h
    ·rename_i hsz
     split at h
     ·rename_i d hd
      refine ⟨_, _, h, fun R' k' => by simp only [evalOp, hu, hy, hx, ho, hsz, hd], AX fun w F m ρc o hop hty hi hr => ?_⟩
      simp only [decide_eq_true_eq] at hsz
      obtain ⟨i', hi0, hsz'⟩ := BQ hsz
      obtain ⟨a1, a2, a3⟩ := An hd
      have hrx := hr x
      rw [hx] at hrx
      unfold Rep at hrx
      rw [ho] at hrx
      obtain ⟨hpos, hob⟩ := hi.obj id _ ho
      cases hm : m id with
      | none => rw [hm] at hob; simp only at hob; subst hob; simp at a3
      | some p =>
       obtain ⟨b, cap⟩ := p
       rw [hm] at hrx
       simp only [Ba] at hrx
       refine ⟨_, B4 hop hrx (A9 (hy ▸ hr y)) (Dj hu hi0 ⟨b, 0, none⟩ _ cap j a1 a2), ?_⟩
       unfold Rep
       rw [ho]
       exact ⟨by unfold AG; omega, b, cap, hm, by rw [Ct, hsz']; simp [AG]⟩
     ·cases h
    ·cases h
   ·rename_i T' tgt is ho
    split at h
    ·rename_i hsz
     split at h
     ·rename_i d hd
      refine ⟨_, _, h, fun R' k' => by simp only [evalOp, hu, hy, hx, ho, hsz, hd], AX fun w F m ρc o hop hty hi hr => ?_⟩
      simp only [decide_eq_true_eq] at hsz
      obtain ⟨i', hi0, hsz'⟩ := BQ hsz
      obtain ⟨a1, a2, a3⟩ := An hd
      have hrx := hr x
      rw [hx] at hrx
      unfold Rep at hrx
      rw [ho] at hrx
      have hob := hi.obj id _ ho
      cases hm : m id with
      | none => rw [hm] at hob; have hob : is = [] := hob; subst hob; simp at a3
      | some p =>
       obtain ⟨b, cap⟩ := p
       rw [hm] at hrx
       simp only [Ba] at hrx
       refine ⟨_, B4 hop hrx (A9 (hy ▸ hr y)) (Dj hu hi0 ⟨b, 0, none⟩ _ cap j a1 a2), ?_⟩
       unfold Rep
       rw [ho]
       exact ⟨by unfold AG; omega, b, cap, hm, by rw [Ct, hsz']; simp [AG]⟩
     ·cases h
    ·cases h
   ·cases h
  ·rename_i id off n hx
   split at h
   ·rename_i T' t xs ho
    split at h
    ·rename_i hsz
     split at h
     ·rename_i d hd
      refine ⟨_, _, h, fun R' k' => by simp only [evalOp, hu, hy, hx, ho, hsz, hd], AX fun w F m ρc o hop hty hi hr => ?_⟩
      simp only [decide_eq_true_eq] at hsz
      obtain ⟨i', hi0, hsz'⟩ := BQ hsz
      obtain ⟨a1, a2, a3⟩ := An hd
      have hrx := hr x
      rw [hx] at hrx
      unfold Rep at hrx
      rw [ho] at hrx
      obtain ⟨hle, hrx⟩ := hrx
      have hcl : (DE off n xs).length = n := by unfold DE; rw [List.length_take, List.length_drop]; omega
      rw [hcl] at a2
      obtain ⟨hpos, hob⟩ := hi.obj id _ ho
      cases hm : m id with
      | none =>
       rw [hm] at hob; simp only at hob; subst hob
       have : n = 0 := by have := hle; simp at this; exact this.2
       omega
      | some p =>
       obtain ⟨b, cap⟩ := p
       rw [hm] at hrx hob
       obtain ⟨vs, row, e1, e2, _⟩ := hob
       obtain ⟨a, e3, e4⟩ := hrx
       have e4 := e4 (by omega)
       subst e4
       refine ⟨_, B4 hop e3 (A9 (hy ▸ hr y)) (Dj hu hi0 ⟨b, off * t.size, none⟩ _ _ j a1 a2), ?_⟩
       unfold Rep
       rw [ho]
       exact ⟨by unfold AG; omega, b, cap, hm, by rw [Ct, hsz']; simp [AG, Nat.add_mul]⟩
     ·cases h
    ·cases h
   ·cases h
  ·cases h
 ·rename_i n e j i hu hy
  split at h
  ·rename_i s hs hd
   obtain ⟨i', hi0, rfl⟩ := BQ hs
   have hd' := hd
   simp only [decide_eq_true_eq] at hd'
   have hd1 : 0 ≤ i := hd'.1
   have hd2 : i < (n : Int) := hd'.2
   have hrun : ∀ (w : World) (ad : Addr), (Instr.indexAt T (.pointer (some ad)) (.int j i)).run P w = .ok (.pointer (some (ad.add (i.toNat * i'.size)))) w := by
    intro w ad
    simp [Instr.indexAt, asIntOf, run_underlying hu, Instr.sureAddr, hd1, hd2, run_sizeOf hi0]
   split at h
   ·rename_i id o' hx
    split at h
    ·rename_i hl
     obtain ⟨cs, ho⟩ := I5 hl
     refine ⟨_, _, h, fun R' k' => by simp only [evalOp, hu, hy, hs, hd, hx, hl], AX fun w F m ρc o hop hty hi hr => ?_⟩
     obtain ⟨b, c, vs, T, e1, e2, _⟩ := Oa hi ho (hx ▸ hr x)
     refine ⟨_, B4 hop e2 (A9 (hy ▸ hr y)) (hrun w _), ?_⟩
     unfold Rep; rw [ho]; exact ⟨b, c, e1, by rw [Ct]⟩
    ·cases h
   ·rename_i id jj s hx
    split at h
    ·rename_i hl
     obtain ⟨T', t, xs, ho⟩ := DN hl
     refine ⟨_, _, h, fun R' k' => by simp only [evalOp, hu, hy, hs, hd, hx, hl], AX fun w F m ρc o hop hty hi hr => ?_⟩
     obtain ⟨b, c, vs, row, e1, e2, e3, _⟩ := Le hi ho (hx ▸ hr x)
     refine ⟨_, B4 hop e2 (A9 (hy ▸ hr y)) (hrun w _), ?_⟩
     unfold Rep; rw [ho]; exact ⟨e3, b, c, e1, by rw [Ct, Nat.add_assoc]⟩
    ·cases h
   ·rename_i cs hx
    refine ⟨_, _, h, fun R' k' => by simp only [evalOp, hu, hy, hs, hd, hx], AX fun w F m ρc o hop hty hi hr => ?_⟩
    have hrx := hr x
    rw [hx] at hrx
    unfold Rep at hrx
    obtain ⟨ad, us, e1, e2, e3, e4, e5⟩ := hrx
    refine ⟨_, B4 hop e1 (A9 (hy ▸ hr y)) (hrun w _), ?_⟩
    unfold Rep
    exact ⟨_, us.drop (i.toNat * i'.size), rfl, fun hne => by rw [Lf]; exact e2 (by rintro rfl; simp at hne), ED e3 _, fun u hu => e4 u (List.mem_of_mem_drop hu), fun j u hu => by
     rw [add_add]; rw [List.getElem?_drop] at hu; exact e5 _ u hu⟩
   ·cases h
  ·cases h
 ·cases h
end
end Go.Pev
end
section
namespace Go.Pev
open Go.RowKit
section
variable {P : Program} {E : Env}
theorem ATX {α : Type} {a : Array α} {x : α} (h : a.toList = [x]) : a = #[x] := by rw [← Array.toArray_toList (xs := a), h]
theorem AYo {α : Type} {a : Array α} {x y : α} (h : a.toList = [x, y]) : a = #[x, y] := by rw [← Array.toArray_toList (xs := a), h]
theorem YJ {w : World} {F : Nat → Prop} {a b : Ty} : ∀ {es : List (a.den × b.den)} {ms : List MapEntry}, HN w F a b es ms → ms.length = es.length := by
 intro es
 induction es with
 | nil => rintro ms rfl; rfl
 | cons e es ih => rintro ms ⟨me, ms', rfl, _, h⟩; simp [ih h]
theorem EW {w w' : World} {ρc : Operand → Value} {o : Oper} {T : TypeId} {x : Operand} {v u : Value} (hop : o.op = .call { callee := .builtin .len, args := #[x], argTypes := #[T] }) (e1 : ρc x = v)
  (hrun : (Builtin.len_ #[T] o.type #[v]).run P w = .ok u w') : (execOp ρc o).run P w = .ok (.value u) w' := by simp [execOp, hop, resolve, invoke, builtin, e1, hrun]
theorem Bl {w : World} {T e ty : TypeId} (hu : P.underlying T = some (.slice e)) (a : Option Addr) (n c : Nat) : (Builtin.len_ #[T] ty #[.slice a n c]).run P w = .ok (.int .i64 n) w := by
 simp [Builtin.len_, run_underlying hu, goInt]
theorem ATH (args : Array Operand) (ts : Array TypeId) : Claim P E (.call { callee := .builtin .len, args := args, argTypes := ts }) := by
 intro R ty ρ H fz slot k r h
 simp only [evalOp] at h
 split at h
 ·rename_i x T ha hts
  obtain rfl := ATX ha
  obtain rfl := ATX hts
  split at h
  ·rename_i e hu
   split at h
   ·rename_i t xs hx
    refine ⟨_, _, h, fun R' k' => by simp only [evalOp, hu, hx], AX fun w F m ρc o hop hty hi hr => ?_⟩
    have hrx := hr x
    rw [hx] at hrx
    have hrx : Dat w F (.slice t) xs [ρc x] := hrx
    obtain ⟨a, cap, e1, _⟩ := hrx
    simp only [List.cons.injEq, and_true] at e1
    exact ⟨_, EW hop e1 (Bl hu _ _ _), Ar _ _⟩
   ·rename_i hx
    refine ⟨_, _, h, fun R' k' => by simp only [evalOp, hu, hx], AX fun w F m ρc o hop hty hi hr => ?_⟩
    have hrx := hr x
    rw [hx] at hrx
    unfold Rep at hrx
    exact ⟨_, EW hop hrx (Bl hu _ _ _), Ar _ _⟩
   ·rename_i id hx
    split at h
    ·rename_i T' t xs ho
     refine ⟨_, _, h, fun R' k' => by simp only [evalOp, hu, hx, ho], AX fun w F m ρc o hop hty hi hr => ?_⟩
     have hrx := hr x
     rw [hx] at hrx
     unfold Rep at hrx
     rw [ho] at hrx
     obtain ⟨_, hob⟩ := hi.obj id _ ho
     cases hm : m id with
     | none =>
      rw [hm] at hrx hob
      obtain ⟨a, e1⟩ := hrx
      simp only at hob; subst hob
      exact ⟨_, EW hop e1 (Bl hu _ _ _), Ar _ _⟩
     | some p =>
      rw [hm] at hrx
      exact ⟨_, EW hop hrx (Bl hu _ _ _), Ar _ _⟩
    ·rename_i T' tgt is ho
     refine ⟨_, _, h, fun R' k' => by simp only [evalOp, hu, hx, ho], AX fun w F m ρc o hop hty hi hr => ?_⟩
     have hrx := hr x
     rw [hx] at hrx
     unfold Rep at hrx
     rw [ho] at hrx
     have hob := hi.obj id _ ho
     cases hm : m id with
     | none =>
      rw [hm] at hrx hob
      obtain ⟨a, e1⟩ := hrx
      have hob : is = [] := hob
      subst hob
      exact ⟨_, EW hop e1 (Bl hu _ _ _), Ar _ _⟩
     | some p =>
      rw [hm] at hrx
      exact ⟨_, EW hop hrx (Bl hu _ _ _), Ar _ _⟩
    ·cases h
   ·rename_i id off n hx
    split at h
    ·rename_i hl
     obtain ⟨T', t, xs, ho⟩ := DN hl
     refine ⟨_, _, h, fun R' k' => by simp only [evalOp, hu, hx, hl], AX fun w F m ρc o hop hty hi hr => ?_⟩
     have hrx := hr x
     rw [hx] at hrx
     unfold Rep at hrx
     rw [ho] at hrx
     obtain ⟨_, hrx⟩ := hrx
     cases hm : m id with
     | none =>
      rw [hm] at hrx
      obtain ⟨a, e1⟩ := hrx
      exact ⟨_, EW hop e1 (Bl hu _ _ _), Ar _ _⟩
     | some p =>
      rw [hm] at hrx
      obtain ⟨a, e1, _⟩ := hrx
      exact ⟨_, EW hop e1 (Bl hu _ _ _), Ar _ _⟩
    ·cases h
   ·cases h
  ·rename_i kt vt hu
   split at h
   ·rename_i id hx
    split at h
    ·rename_i a b es ho
     refine ⟨_, _, h, fun R' k' => by simp only [evalOp, hu, hx, ho], AX fun w F m ρc o hop hty hi hr => ?_⟩
     have hrx := hr x
     rw [hx] at hrx
     unfold Rep at hrx
     rw [ho] at hrx
     obtain ⟨bb, c, e1, e2⟩ := hrx
     obtain ⟨b', c', ms, clock, e3, e4, e5, _⟩ := hi.obj id _ ho
     rw [e1] at e3; cases e3
     refine ⟨_, EW hop e2 (u := .int .i64 (ms.size : Int)) ?_, ?_⟩
     ·simp [Builtin.len_, run_underlying hu, goInt, getObj, Sem.run, e4]
     ·have := YJ e5
      rw [Array.length_toList] at this
      rw [this]
      exact Ar _ _
    ·cases h
   ·cases h
  ·cases h
 ·cases h
theorem HA {w : World} {F : Nat → Prop} {m : Mp} {H : List Ob} {fz : List Bool} (hi : HI w F m H fz) {t : Ty} {v : AV} {ys : List t.den} {fr : List Nat} (h : E3 H (.slice t) v = some (ys, fr)) {u : Value} (hr : Rep w F m H v u) :
  ∃ a cap, u = .slice a ys.length cap ∧ ys.length ≤ cap ∧ (ys ≠ [] → a.isSome = true) ∧ ∃ news, rows (Dat w F t) ys news ∧ ∀ ad, a = some ad → ∀ j u, news[j]? = some u → w.cell? (ad.add j) = some u := by
 change Dz H (.slice t) v = some (ys, fr) at h
 unfold Dz at h
 split at h
 ·rename_i t' d
  simp only [Option.map_eq_some_iff, Prod.mk.injEq] at h
  obtain ⟨y, h1, rfl, rfl⟩ := h
  obtain ⟨e, h2⟩ := E0 h1
  subst e; simp only at h2; subst h2
  have hrx : Dat w F (.slice t) d [u] := hr
  obtain ⟨a, cap, e1, e2, e3⟩ := hrx
  simp only [List.cons.injEq, and_true] at e1
  refine ⟨a, cap, e1, e2, fun hne => ?_, ?_⟩
  ·obtain ⟨ad, row, rfl, _⟩ := e3 hne; rfl
  ·by_cases hne : d = []
   ·subst hne
    exact ⟨[], rfl, fun ad _ j u hu => by simp at hu⟩
   ·obtain ⟨ad, row, rfl, q1, q2, q3⟩ := e3 hne
    exact ⟨row, q2, fun ad' h => by cases h; exact q3⟩
 ·simp only [Option.some.injEq, Prod.mk.injEq] at h
  obtain ⟨rfl, rfl⟩ := h
  unfold Rep at hr
  exact ⟨none, 0, hr, Nat.le_refl _, fun h => absurd rfl h, [], rfl, fun ad _ j u hu => by simp at hu⟩
 ·rename_i id
  split at h
  ·rename_i T e xs ho
   simp only [Option.map_eq_some_iff, Prod.mk.injEq] at h
   obtain ⟨y, h1, rfl, rfl⟩ := h
   obtain ⟨e', h2⟩ := E0 h1
   injection e' with e'
   subst e'; simp only at h2; subst h2
   unfold Rep at hr
   rw [ho] at hr
   obtain ⟨_, hob⟩ := hi.obj id _ ho
   cases hm : m id with
   | none =>
    rw [hm] at hr hob
    obtain ⟨a, rfl⟩ := hr
    simp only at hob; subst hob
    exact ⟨a, 0, rfl, Nat.le_refl _, fun h => absurd rfl h, [], rfl, fun ad _ j u hu => by simp at hu⟩
   | some p =>
    obtain ⟨b, cap⟩ := p
    rw [hm] at hr hob
    obtain ⟨vs, row, e1, e2, e3, e4, e5, e6⟩ := hob
    refine ⟨_, cap, hr, e2, fun _ => rfl, row, e5, fun ad h j u hu => ?_⟩
    cases h
    rw [Ct, Nat.zero_add, DR e1]
    exact CK e6 hu
  ·cases h
 ·rename_i id off n
  split at h
  ·rename_i T e xs ho
   simp only [Option.map_eq_some_iff, Prod.mk.injEq] at h
   obtain ⟨y, h1, rfl, rfl⟩ := h
   obtain ⟨e', h2⟩ := E0 h1
   injection e' with e'
   subst e'; simp only at h2; subst h2
   unfold Rep at hr
   rw [ho] at hr
   obtain ⟨hle, hr⟩ := hr
   have hcl : (DE off n xs).length = n := by unfold DE; rw [List.length_take, List.length_drop]; omega
   obtain ⟨_, hob⟩ := hi.obj id _ ho
   cases hm : m id with
   | none =>
    rw [hm] at hr hob
    obtain ⟨a, rfl⟩ := hr
    simp only at hob; subst hob
    have hn : n = 0 := by have := hle; simp at this; exact this.2
    subst hn
    have hd : DE off 0 ([] : List e.den) = [] := by simp [DE]
    exact ⟨a, 0, by rw [hcl], by rw [hcl]; omega, fun h => absurd hd h, [], by rw [hd]; rfl, fun ad _ j u hu => by simp at hu⟩
   | some p =>
    obtain ⟨b, cap⟩ := p
    rw [hm] at hr hob
    obtain ⟨vs, row, e1, e2, e3, e4, e5, e6⟩ := hob
    obtain ⟨a, rfl, ha⟩ := hr
    have hk := fun (x : e.den) cs (h : Dat w F e x cs) => Dat.length e h
    have hrw := Ee hk n (H8 hk off e5)
    refine ⟨a, cap - off, by rw [hcl], by rw [hcl]; omega, fun hne => ?_, _, hrw, fun ad h j u hu => ?_⟩
    ·have hn : 0 < n := by
      rcases Nat.eq_zero_or_pos n with h0 | h0
      ·exact absurd (List.eq_nil_of_length_eq_zero (hcl.trans h0)) hne
      ·exact h0
     rw [ha (by omega)]; rfl
    ·have hn : 0 < n := by
      rcases Nat.eq_zero_or_pos n with h0 | h0
      ·subst h0; simp at hu
      ·exact h0
     rw [ha (by omega)] at h; cases h
     rw [Ct, DR e1]
     rw [List.getElem?_take] at hu
     split at hu
     ·rw [List.getElem?_drop] at hu
      exact CK e6 hu
     ·cases hu
  ·cases h
 ·cases h
end
end Go.Pev
end
section
namespace Go.Pev
open Go.RowKit
section
variable {P : Program} {E : Env}
theorem Av.kill {w : World} {F : Nat → Prop} {m : Mp} {H : List Ob} {fz : List Bool} (hi : HI w F m H fz) {j : Nat} (hoj : owned H fz j) : Av w F m H fz w F m (H.set j .dead) fz := by
 obtain ⟨oj, hj, hjf, hjd⟩ := DA hoj
 have hlt := As hj
 have hgj : (H.set j .dead)[j]? = some .dead := BP hlt
 have hcomp : Co H (H.set j .dead) m m := by
  intro i x hix hf
  by_cases hij : i = j
  ·subst hij; exact .inl hgj
  ·rcases Co.refl H m i x hix hf with h | ⟨hd, x', h4, h5, _⟩
   ·exact .inl (by rw [Ay hij]; exact h)
   ·exact .inr ⟨hd, x', by rw [Ay hij]; exact h4, h5, rfl⟩
 have hown : ∀ i, owned (H.set j .dead) fz i → owned H fz i := fun i hoi => by
  by_cases hij : i = j
  ·subst hij; unfold owned at hoi; rw [hgj] at hoi; exact hoi.elim
  ·unfold owned at *; rw [Ay hij] at hoi; exact hoi
 refine ⟨⟨rfl, rfl, rfl, Nat.le_refl _, fun _ _ _ => rfl, fun _ h => h, fun _ h => .inl h, fun i b c h1 h2 => .inl ⟨i, c, hown i h1, h2⟩, hcomp⟩, ⟨?_, ?_, ?_, ?_, hi.lt, by simpa using hi.len⟩⟩
 ·intro id x hix
  by_cases hij : id = j
  ·subst hij; rw [hgj] at hix; cases hix; trivial
  ·rw [Ay hij] at hix
   exact ObI.mono (fun _ _ => rfl) (fun _ h => h) hcomp (fun _ _ _ _ _ _ => rfl) (hi.obj id x hix)
 ·exact fun i k b c b' c' h1 h2 => hi.sep i k b c b' c' (hown i h1) (hown k h2)
 ·exact fun i b c h1 => hi.off i b c (hown i h1)
 ·intro i T t xs b c hio hf hmi
  by_cases hij : i = j
  ·subst hij; rw [hgj] at hio; cases hio
  ·rw [Ay hij] at hio
   exact hi.froz i T t xs b c hio hf hmi
theorem Ml {H : List Ob} {fz : List Bool} {slot j : Nat} {o : Ob} (h : A3 H fz slot = true) (hne : slot ≠ j) : A3 (H.set j o) fz slot = true := by
 unfold A3 at *
 rw [Ay hne]; exact h
theorem CC {w w' : World} {ρc : Operand → Value} {o : Oper} {T : TypeId} {s x : Operand} {v n u : Value} (hop : o.op = .call { callee := .builtin .append, args := #[s, x], argTypes := #[T, T] }) (e1 : ρc s = v) (e2 : ρc x = n)
  (hrun : (Builtin.append_ #[T, T] o.type #[v, n]).run P w = .ok u w') : (execOp ρc o).run P w = .ok (.value u) w' := by simp [execOp, hop, resolve, invoke, builtin, e1, e2, hrun]
theorem Fj {w : World} {T e ty : TypeId} {i : TypeInfo} (hu : P.underlying T = some (.slice e)) (hi : P.info? e = some i) (a : Option Addr) {n cap : Nat} (hn : n ≤ cap) (A : Option Addr) (c : Nat) :
  (Builtin.append_ #[T, T] ty #[.slice a n cap, .slice A 0 c]).run P w = .ok (.slice a n cap) w := by
 have hf : (Builtin.firstCells i.size 0 (.slice A 0 c)).run P w = .ok #[] w := by
  cases A with
  | none => simp [Builtin.firstCells]
  | some ad => simp [Builtin.firstCells, Go.loadCells, loadCellsFrom]
 cases a with
 | none => simp [Builtin.append_, run_underlying hu, run_sizeOf hi, Builtin.lenOf, hn, hf]
 | some ad => simp [Builtin.append_, run_underlying hu, run_sizeOf hi, Builtin.lenOf, hn, hf, storeCells]
structure AZ6 (w : World) (a : Option Addr) (n cap : Nat) (e : TypeId) (sz : Nat) (m : Nat) (old news : List Value) (v : Value) (w' : World) : Prop where
 os : w'.os = w.os
 tape : w'.tape = w.tape
 output : w'.output = w.output
 size : w.heap.size ≤ w'.heap.size
 keep : ∀ k, k < w.heap.size → (∀ b, a = some ⟨b, 0, none⟩ → k ≠ b) → w'.heap[k]? = w.heap[k]?
 res : (m = 0 ∧ v = .slice a n cap ∧ w' = w) ∨ (∃ g cap' vs, v = .slice (some ⟨g, 0, none⟩) (n + m) cap' ∧ w'.heap[g]? = some (.cells vs e (0, 0)) ∧ n + m ≤ cap' ∧ cap' ≤ maxLen ∧ vs.size = cap' * sz ∧
   vs.toList.take ((n + m) * sz) = old ++ news ∧ (w.heap.size ≤ g ∨ a = some ⟨g, 0, none⟩))
theorem Yy {w : World} {T e ty : TypeId} {i : TypeInfo} {z : Value} (hu : P.underlying T = some (.slice e)) (hi : P.info? e = some i) (hz : i.zero = some z) (hzs : z.cells.size = i.size) (hsz : 0 < i.size)
  {b n cap : Nat} {vs : Array Value} (hb : w.heap[b]? = some (.cells vs e (0, 0))) (hn : n ≤ cap) (hmax : cap ≤ maxLen) (hvs : vs.size = cap * i.size) {A : Option Addr} {m c : Nat} {news : List Value} (hl : news.length = m * i.size)
  (hA : 0 < m → A.isSome = true) (hnews : ∀ ad, A = some ad → ∀ j u, news[j]? = some u → w.cell? (ad.add j) = some u) (h1 : ∀ u ∈ news, u.oneCell' = true) (hfit : n + m ≤ 4294967296) (hby : i.bytes ≤ 1024) :
  ∃ v w', (Builtin.append_ #[T, T] ty #[.slice (some ⟨b, 0, none⟩) n cap, .slice A m c]).run P w = .ok v w' ∧ AZ6 w (some ⟨b, 0, none⟩) n cap e i.size m (vs.toList.take (n * i.size)) news v w' := by
 have hbytes : (n + m) * i.bytes ≤ 140737488355328 := Nat.le_trans (Nat.mul_le_mul hfit hby) (by omega)
 have hown : w.ownsRow 0 e i.size (.slice (some ⟨b, 0, none⟩) n cap) n (vs.toList.take (n * i.size)) := by
  refine ⟨?_, .inr ⟨b, cap, vs, rfl, Nat.zero_le _, hb, hn, hmax, hvs, rfl⟩⟩
  rw [List.length_take, Array.length_toList, hvs]
  exact Nat.min_eq_left (Nat.mul_le_mul_right _ hn)
 cases A with
 | none =>
  have hm : m = 0 := by
   rcases Nat.eq_zero_or_pos m with h0 | h0
   ·exact h0
   ·exact absurd (hA h0) (by simp)
  subst hm
  exact ⟨_, w, Fj hu hi _ hn none c, rfl, rfl, rfl, Nat.le_refl _, fun _ _ _ => rfl, .inl ⟨rfl, rfl, rfl⟩⟩
 | some ad =>
  obtain ⟨v', w', hrun, ⟨hl', hres⟩, hg, _, hat⟩ := run_append_own_at (P := P) w 0 T ty e i z i.size i.bytes hu hi hz rfl rfl hzs hsz _ n _ hown ad m c news hl (hnews ad rfl) h1 (by simp only [maxLen]; omega) hbytes (Nat.zero_le _)
  refine ⟨v', w', hrun, hg.os, hg.tape, hg.output, hg.size, fun k hk hne => hg.block k hk (by simp [Value.ownBlock]; exact hne b rfl), .inr ?_⟩
  rcases hres with ⟨rfl, h0⟩ | ⟨g, cap', cur, rfl, _, h2, h3, h4, h5, h6⟩
  ·rcases hat with h | h <;> simp [Value.ownBlock] at h
  ·refine ⟨g, cap', cur, rfl, h2, h3, h4, h5, h6, ?_⟩
   rcases hat with h | h
   ·simp only [Value.ownBlock, Option.some.injEq] at h; subst h; exact .inr rfl
   ·simp only [Value.ownBlock, Option.some.injEq] at h; subst h; exact .inl (Nat.le_refl _)
theorem Ke {w : World} {T e ty : TypeId} {i : TypeInfo} {z : Value} (hu : P.underlying T = some (.slice e)) (hi : P.info? e = some i) (hz : i.zero = some z) (hzs : z.cells.size = i.size)
  (a : Option Addr) {A : Option Addr} {m c : Nat} {news : List Value} (hl : news.length = m * i.size)
  (hA : 0 < m → A.isSome = true) (hnews : ∀ ad, A = some ad → ∀ j u, news[j]? = some u → w.cell? (ad.add j) = some u) (hfit : m ≤ 4294967296) (hby : i.bytes ≤ 1024) :
  ∃ v w', (Builtin.append_ #[T, T] ty #[.slice a 0 0, .slice A m c]).run P w = .ok v w' ∧ w'.os = w.os ∧ w'.tape = w.tape ∧ w'.output = w.output ∧ w.heap.size ≤ w'.heap.size ∧ (∀ k, k < w.heap.size → w'.heap[k]? = w.heap[k]?) ∧
   ((m = 0 ∧ v = .slice a 0 0) ∨ (∃ cap' vs, v = .slice (some ⟨w.heap.size, 0, none⟩) m cap' ∧ w'.heap[w.heap.size]? = some (.cells vs e (0, 0)) ∧ m ≤ cap' ∧ cap' ≤ maxLen ∧ vs.size = cap' * i.size ∧ vs.toList.take (m * i.size) = news)) := by
 rcases Nat.eq_zero_or_pos m with h0 | h0
 ·subst h0
  exact ⟨_, w, Fj hu hi a (Nat.le_refl _) A c, rfl, rfl, rfl, Nat.le_refl _, fun _ _ => rfl, .inl ⟨rfl, rfl⟩⟩
 ·obtain ⟨ad, rfl⟩ := Option.isSome_iff_exists.1 (hA h0)
  have hmb : m * i.bytes ≤ 281474976710656 := Nat.le_trans (Nat.mul_le_mul hfit hby) (by omega)
  have hge := grownCap_ge w m 0 e
  have hle := grownCap_le_maxLen w m 0 e (by simp only [maxLen]; omega)
  have fin : ∀ vs : Array Value, vs.toList = news ++ (Builtin.zeroCells z.cells (grownCap w m 0 e - m)).toList → vs.size = grownCap w m 0 e * i.size ∧ vs.toList.take (m * i.size) = news := by
   intro vs hvs
   refine ⟨?_, ?_⟩
   ·rw [← Array.length_toList, hvs, List.length_append, hl, Array.length_toList, size_zeroCells, hzs, ← Nat.add_mul]
    congr 1; omega
   ·rw [hvs, ← hl]; exact List.take_left
  cases a with
  | none =>
   have hr := run_append_nil (P := P) w T ty e i z hu hi hz ad m c news hl (hnews ad rfl) h0 (by omega) hmb
   obtain ⟨f1, f2⟩ := fin (news.toArray ++ Builtin.zeroCells z.cells (grownCap w m 0 e - m)) (by simp)
   exact ⟨_, _, hr, rfl, rfl, rfl, by simp, fun k hk => heap_alloc_old w.drew _ k hk, .inr ⟨_, _, rfl, heap_alloc_new w.drew _, hge, hle, f1, f2⟩⟩
  | some b =>
   have hr := run_append_grow (P := P) w T ty e i z hu hi hz b 0 0 [] (by simp) (fun j v h => by simp at h) ad m c news hl (hnews ad rfl) (by omega) (by omega) (by
    rw [Nat.zero_add]
    have : Builtin.nextslicecap m 0 = m := nextslicecap_zero h0
    rw [this]; exact hmb)
   simp only [Nat.zero_add] at hr
   obtain ⟨f1, f2⟩ := fin (([] : List Value).toArray ++ news.toArray ++ Builtin.zeroCells z.cells (grownCap w m 0 e - m)) (by simp)
   exact ⟨_, _, hr, rfl, rfl, rfl, by simp, fun k hk => heap_alloc_old w.drew _ k hk, .inr ⟨_, _, rfl, heap_alloc_new w.drew _, hge, hle, f1, f2⟩⟩
end
end Go.Pev
end
section
namespace Go.Pev
open Go.RowKit
section
variable {P : Program} {E : Env}
theorem AP3 {H : List Ob} {fz : List Bool} {slot id : Nat} {T : TypeId} {t : Ty} {xs : List t.den} (hf : A3 H fz slot = true) (ho : H[id]? = some (.arr T t xs)) : slot ≠ id := by
 rintro rfl
 rw [(BU hf).1] at ho; cases ho
theorem JF {w : World} {F : Nat → Prop} {m : Mp} {H : List Ob} {fz : List Bool} (hi : HI w F m H fz) {slot : Nat} (hf : A3 H fz slot = true) {T e ty : TypeId} {t : Ty} {i : TypeInfo} {z : Value} (hu : P.underlying T = some (.slice e))
  (hi0 : P.info? e = some i) (hz : i.zero = some z) (hzs : z.cells.size = i.size) (hsz : i.size = t.size) (hpos : 0 < t.size) (hby : i.bytes ≤ 1024) {ys : List t.den} (hfit : ys.length ≤ 4294967296) (a : Option Addr)
  {A : Option Addr} {c : Nat} {news : List Value} (hA : ys ≠ [] → A.isSome = true) (hrows : rows (Dat w F t) ys news) (hnews : ∀ ad, A = some ad → ∀ j u, news[j]? = some u → w.cell? (ad.add j) = some u) :
  ∃ v w' m', (Builtin.append_ #[T, T] ty #[.slice a 0 0, .slice A ys.length c]).run P w = .ok v w' ∧ Av w F m H fz w' F m' (H.set slot (.arr e t ys)) fz ∧ Rep w' F m' (H.set slot (.arr e t ys)) (.own slot) v := by
 have hk := fun (x : t.den) cs (h : Dat w F t x cs) => Dat.length t h
 have hl := BK hk hrows
 obtain ⟨v, w', hrun, h1, h2, h3, h4, h5, h6⟩ := Ke (P := P) (w := w) (ty := ty) hu hi0 hz hzs a (A := A) (m := ys.length) (c := c) (news := news) (by rw [hl, hsz]) (fun h => hA (by rintro rfl; simp at h)) hnews hfit hby
 rcases h6 with ⟨h0, rfl⟩ | ⟨cap', vs, rfl, q1, q2, q3, q4, q5⟩
 ·have hy : ys = [] := List.eq_nil_of_length_eq_zero h0
  subst hy
  have hgw := Av.grow hi h1 h2 h3 h4 h5
  obtain ⟨m', hg, hrep⟩ := Gz hgw.2 hf e hpos a
  exact ⟨_, w', m', hrun, hgw.trans hg, hrep⟩
 ·obtain ⟨m', hg, hrep⟩ := GA hi hf hpos q1 h1 h2 h3 h4 h5 q2 q3 (by rw [q4, hsz]) hrows (by rw [hl, ← hsz]; exact q5)
  exact ⟨_, w', m', hrun, hg, hrep⟩
theorem Sr {w : World} {F : Nat → Prop} {m : Mp} {H : List Ob} {fz : List Bool} (hi : HI w F m H fz) {slot : Nat} (hf : A3 H fz slot = true) {T e ty : TypeId} {t : Ty} {i : TypeInfo} {z : Value} (hu : P.underlying T = some (.slice e))
  (hi0 : P.info? e = some i) (hz : i.zero = some z) (hzs : z.cells.size = i.size) (hsz : i.size = t.size) (hpos : 0 < t.size) (hby : i.bytes ≤ 1024) {id : Nat} {xs : List t.den} (ho : H[id]? = some (.arr e t xs)) (hun : Aw fz id = true)
  {b cap : Nat} (hm : m id = some (b, cap)) {n : Nat} (hn : n ≤ xs.length) {ys : List t.den} (hfit : n + ys.length ≤ 4294967296)
  {A : Option Addr} {c : Nat} {news : List Value} (hA : ys ≠ [] → A.isSome = true) (hrows : rows (Dat w F t) ys news) (hnews : ∀ ad, A = some ad → ∀ j u, news[j]? = some u → w.cell? (ad.add j) = some u) :
  ∃ v w' m', (Builtin.append_ #[T, T] ty #[.slice (some ⟨b, 0, none⟩) n cap, .slice A ys.length c]).run P w = .ok v w' ∧
   Av w F m H fz w' F m' ((H.set id .dead).set slot (.arr e t (xs.take n ++ ys))) fz ∧ Rep w' F m' ((H.set id .dead).set slot (.arr e t (xs.take n ++ ys))) (.own slot) v := by
 have hk := fun (x : t.den) cs (h : Dat w F t x cs) => Dat.length t h
 have hl := BK hk hrows
 obtain ⟨_, hob⟩ := hi.obj id _ ho
 rw [hm] at hob
 obtain ⟨vs, row, e1, e2, e3, e4, e5, e6⟩ := hob
 have hrl := BK hk e5
 have hold : vs.toList.take (n * i.size) = row.take (n * t.size) := by
  rw [← e6, List.take_take, hsz, Nat.min_eq_left (by rw [hrl]; exact Nat.mul_le_mul_right _ hn)]
 obtain ⟨v, w', hrun, hgr⟩ := Yy (P := P) (w := w) (ty := ty) hu hi0 hz hzs (by omega) e1 (n := n) (by omega) e3 (by rw [e4, hsz]) (A := A) (m := ys.length) (c := c) (news := news) (by rw [hl, hsz]) (fun h => hA (by rintro rfl; simp at h)) hnews
  (fun u hu => Vb (fun x cs (h : Dat w F t x cs) => Dat.HT t h) hrows u hu) hfit hby
 rw [hold] at hgr
 have hlen : (xs.take n ++ ys).length = n + ys.length := by rw [List.length_append, List.length_take]; omega
 have hr0 := Jr (Ee hk n e5) hrows
 have hcell : ∀ a : Addr, F a.block → w'.cell? a = w.cell? a := fun a ha => by
  have h1 : a.block ≠ b := by rintro h; exact hi.off id b cap (Cr ho hun) hm (h ▸ ha)
  simp [World.cell?, hgr.keep _ (hi.lt _ ha) (fun b' h => by cases h; exact h1)]
 have hlts := As (BU hf).1
 have hgs : ((H.set id .dead).set slot (.arr e t (xs.take n ++ ys)))[slot]? = some (.arr e t (xs.take n ++ ys)) := BP (by simpa using hlts)
 have main : ∀ (g cap' : Nat) (vs' : Array Value), (w.heap.size ≤ g ∨ g = b) → w'.heap[g]? = some (.cells vs' e (0, 0)) → n + ys.length ≤ cap' → cap' ≤ maxLen → vs'.size = cap' * t.size → vs'.toList.take ((n + ys.length) * t.size) = row.take (n * t.size) ++ news →
   ∃ m', Av w F m H fz w' F m' ((H.set id .dead).set slot (.arr e t (xs.take n ++ ys))) fz ∧ Rep w' F m' ((H.set id .dead).set slot (.arr e t (xs.take n ++ ys))) (.own slot) (.slice (some ⟨g, 0, none⟩) (n + ys.length) cap') := by
  intro g cap' vs' hg q1 q2 q3 q4 q5
  have := Av.move (w' := w') hi (Cr ho hun) hm hf (ob := .arr e t (xs.take n ++ ys)) trivial (b' := g) (c' := cap') hg.symm hgr.os hgr.tape hgr.output hgr.size (fun k hk hne => hgr.keep k hk (fun b' h => by cases h; exact hne))
   (fun _ => ⟨hpos, vs', row.take (n * t.size) ++ news, q1, by rw [hlen]; exact q2, q3, q4, BO (fun x _ cs hx => hx.mono hcell (fun _ h => h) t) hr0, by
    have : (row.take (n * t.size) ++ news).length = (n + ys.length) * t.size := by rw [BK hk hr0, hlen]
    rw [this]; exact q5⟩)
  refine ⟨_, this, ?_⟩
  unfold Rep
  rw [hgs, Ap, ← hlen]
  rfl
 rcases hgr.res with ⟨h0, rfl, rfl⟩ | ⟨g, cap', vs', rfl, q1, q2, q3, q4, q5, q6⟩
 ·have hy : ys = [] := List.eq_nil_of_length_eq_zero h0
  subst hy
  obtain ⟨m', hg, hrep⟩ := main b cap vs (.inr rfl) e1 (by simp; omega) e3 e4 (by
   cases hrows
   rw [List.append_nil, List.length_nil, Nat.add_zero]
   rw [hsz] at hold
   exact hold)
  exact ⟨_, _, m', hrun, hg, by simpa using hrep⟩
 ·obtain ⟨m', hg, hrep⟩ := main g cap' vs' (by rcases q6 with h | h; exact .inl h; cases h; exact .inr rfl) q1 q2 q3 (by rw [q4, hsz]) (by rw [← hsz] at *; exact q5)
  exact ⟨_, _, m', hrun, hg, hrep⟩
theorem AE7 {w w' : World} {ρc : Operand → Value} {o : Oper} {T T' : TypeId} {s x : Operand} {v n u : Value} (hop : o.op = .call { callee := .builtin .append, args := #[s, x], argTypes := #[T, T'] }) (e1 : ρc s = v) (e2 : ρc x = n)
  (hrun : (Builtin.append_ #[T, T'] o.type #[v, n]).run P w = .ok u w') : (execOp ρc o).run P w = .ok (.value u) w' := by simp [execOp, hop, resolve, invoke, builtin, e1, e2, hrun]
theorem AKI {w : World} {F : Nat → Prop} {m : Mp} {H : List Ob} {fz : List Bool} (hi : HI w F m H fz) {slot : Nat} (hf : A3 H fz slot = true) {T T' e ty : TypeId} {t : Ty} {i : TypeInfo} {z : Value} (hu : P.underlying T = some (.slice e))
  (hi0 : P.info? e = some i) (hz : i.zero = some z) (hok : Bj (zeroCells t) z.cells.toList = true) (hsz : i.size = t.size) (hpos : 0 < t.size) (hby : i.bytes ≤ 1024) {kt kx : IntKind} (hk : P.underlying T' = some (.int kt)) {n : Nat} (hfit : n ≤ 4294967296) :
  ∃ v w' m', (Builtin.append_ #[T, T'] ty #[.slice none 0 0, .int kx n]).run P w = .ok v w' ∧ Av w F m H fz w' F m' (H.set slot (.arr e t (List.replicate n t.zero))) fz ∧ Rep w' F m' (H.set slot (.arr e t (List.replicate n t.zero))) (.own slot) v := by
 have hzd := CE (w := w) (F := F) t _ hok
 have hzl : z.cells.size = t.size := by rw [← Array.length_toList]; exact Dat.length t hzd
 have hw : IntKind.i64.wrap (n : Int) = n := IntWalk.i64_in _ (by omega)
 have hbb : (n : Int) * (i.bytes : Int) ≤ 281474976710656 := by
  have : n * i.bytes ≤ 4294967296 * 1024 := Nat.mul_le_mul hfit hby
  have h2 : ((n * i.bytes : Nat) : Int) ≤ 281474976710656 := by omega
  rwa [Int.natCast_mul] at h2
 rcases Nat.eq_zero_or_pos n with h0 | h0
 ·subst h0
  obtain ⟨m', hg, hrep⟩ := Gz (w := w) hi hf e hpos none
  refine ⟨.slice none 0 0, w, m', ?_, by simpa using hg, by simpa using hrep⟩
  have hw0 : IntKind.i64.wrap 0 = 0 := hw
  simp [Builtin.append_, run_underlying hu, run_underlying hk, sizeOf, typeInfo, hi0, asInt, asIntOf, hw0]
 ·have hge := grownCap_ge w n 0 e
  have hle := grownCap_le_maxLen w n 0 e (by simp only [maxLen]; omega)
  have hrows := EJ (w := w) (F := F) hzd n
  have hrl := BK (fun x cs (h : Dat w F t x cs) => Dat.length t h) hrows
  rw [List.length_replicate] at hrl
  have hcells : ∀ k, (Builtin.zeroCells z.cells k).toList = (List.replicate k z.cells.toList).flatten := DK z.cells
  have hrun : (Builtin.append_ #[T, T'] ty #[.slice none 0 0, .int kx n]).run P w = .ok (.slice (some ⟨w.heap.size, 0, none⟩) n (grownCap w n 0 e)) (w.drew.alloc (.cells (Builtin.zeroCells z.cells n ++ Builtin.zeroCells z.cells (grownCap w n 0 e - n)) e)) := by
   have hn : n ≠ 0 := by omega
   have hn2 : ¬ ((n : Int) < 0) := by omega
   have hn3 : ¬ (281474976710656 < (n : Int) * (i.bytes : Int)) := by omega
   have h63' : ¬ (9223372036854775807 < (n : Int)) := by omega
   have h48' : ¬ (281474976710656 < Builtin.nextslicecap n 0 * i.bytes) := by
    rw [nextslicecap_zero h0]
    have : n * i.bytes ≤ 4294967296 * 1024 := Nat.mul_le_mul hfit hby
    omega
   have hsz0 : ¬ (i.size = 0) := by omega
   simp [Builtin.append_, run_underlying hu, run_underlying hk, sizeOf, typeInfo, zeroValue, hi0, hz, asInt, asIntOf, hw, hn, hn2, hn3, h63', h48', Question.forced, run_firstCells_none, newRow, grownCap]
   intro h
   have : n * i.size ≠ 0 := Nat.mul_ne_zero hn hsz0
   omega
  obtain ⟨m', hg, hrep⟩ := GA hi hf (w' := w.drew.alloc (.cells (Builtin.zeroCells z.cells n ++ Builtin.zeroCells z.cells (grownCap w n 0 e - n)) e)) hpos (xs := List.replicate n t.zero) (heap_alloc_new w.drew _) rfl rfl rfl (by simp) (fun b hb => heap_alloc_old w.drew _ b hb)
   (cap := grownCap w n 0 e) (by simpa using hge) hle (by
    rw [Array.size_append, size_zeroCells, size_zeroCells, hzl, ← Nat.add_mul]; congr 1; omega) hrows (by
    rw [hrl, Array.toList_append, hcells, ← hrl, List.take_left])
  rw [List.length_replicate] at hrep
  exact ⟨_, _, m', hrun, hg, hrep⟩
end
end Go.Pev
end
section
namespace Go.Pev
open Go.RowKit
section
variable {P : Program}
theorem Z5 {H : List Ob} {fz : List Bool} {ids : List Nat} {i : Nat} (h : owned H (Ai ids fz) i) : owned H fz i := by
 unfold owned at *
 cases ho : H[i]? with
 | none => rw [ho] at h; exact h.elim
 | some o =>
  rw [ho] at h
  cases o with
  | free => exact h.elim
  | dead => exact h.elim
  | box cs => trivial
  | map k v es => trivial
  | prs T t is => trivial
  | arr T t xs =>
   simp only at h ⊢
   rw [A0] at h
   simp only [Bool.or_eq_false_iff] at h
   exact h.1
theorem ABP {w w' : World} {F : Nat → Prop} {m : Mp} {H : List Ob} {fz : List Bool} (hi : HI w F m H fz) {id : Nat} {e : TypeId} {t : Ty} {xs : List t.den} (ho : H[id]? = some (.arr e t xs)) (hun : Aw fz id = true)
  (os : w'.os = w.os) (tape : w'.tape = w.tape) (output : w'.output = w.output) (size : w.heap.size ≤ w'.heap.size) (G : Nat → Prop)
  (hG : ∀ k, G k → k < w'.heap.size ∧ ((∃ c, m id = some (k, c)) ∨ w.heap.size ≤ k)) (hb : ∀ b c, m id = some (b, c) → G b)
  (hkeep : ∀ k, k < w.heap.size → (∀ c, m id ≠ some (k, c)) → w'.heap[k]? = w.heap[k]?)
  (hob : ObI w' (fun k => F k ∨ G k) m H (.arr e t xs) (m id)) : Av w F m H fz w' (fun k => F k ∨ G k) m H (Ai [id] fz) := by
 have hid := Cr ho hun
 have hown : ∀ i, owned H (Ai [id] fz) i → owned H fz i ∧ i ≠ id := by
  intro i h
  refine ⟨Z5 h, ?_⟩
  rintro rfl
  unfold owned at h
  rw [ho] at h
  simp only at h
  rw [A0] at h
  have hl : i < fz.length := by rw [← hi.len]; exact As ho
  simp [hl] at h
 have hcell : ∀ a : Addr, F a.block → w'.cell? a = w.cell? a := fun a ha => by
  simp [World.cell?, hkeep _ (hi.lt _ ha) (fun c hc => hi.off id _ c hid hc ha)]
 refine ⟨⟨os, tape, output, size, fun b hb' hne => hkeep b hb' (fun c hc => hne id c hid hc), fun _ h => .inl h, ?_, fun i b c h1 h2 => .inl ⟨i, c, (hown i h1).1, h2⟩, Co.refl H m⟩, ⟨?_, ?_, ?_, ?_, ?_, by rw [CV]; exact hi.len⟩⟩
 ·rintro b (h | h)
  ·exact .inl h
  ·rcases (hG b h).2 with ⟨c, hc⟩ | h
   ·exact .inr (.inl ⟨id, c, hid, hc⟩)
   ·exact .inr (.inr h)
 ·intro j o hj
  by_cases hji : j = id
  ·subst hji; rw [ho] at hj; cases hj; exact hob
  ·exact ObI.mono hcell (fun _ h => .inl h) (Co.refl H m) (fun hf hd b c hl hlt => hkeep b hlt (fun c' hc' => hi.ne hid hc' hj hf hd hl hji rfl)) (hi.obj j o hj)
 ·exact fun i j b c b' c' h1 h2 => hi.sep i j b c b' c' (hown i h1).1 (hown j h2).1
 ·rintro i b c h1 h2 (hF | hg)
  ·exact hi.off i b c (hown i h1).1 h2 hF
  ·rcases (hG b hg).2 with ⟨c', hc'⟩ | h
   ·exact hi.sep i id b c b c' (hown i h1).1 hid (hown i h1).2 h2 hc' rfl
   ·have := hi.KC (hown i h1).1 h2; omega
 ·intro i T t' xs' b c hio hf hmi
  by_cases hii : i = id
  ·subst hii; exact .inr (hb b c hmi)
  ·refine .inl (hi.froz i T t' xs' b c hio ?_ hmi)
   rw [A0] at hf
   simpa [hii] using hf
 ·rintro b (h | h)
  ·exact Nat.lt_of_lt_of_le (hi.lt b h) size
  ·exact (hG b h).1
theorem AWf {w' : World} {F' : Nat → Prop} {m : Mp} {H : List Ob} {g cap : Nat} {vs : Array Value} {e : TypeId} {t : Ty} {zs : List t.den} {row : List Value} (hg : w'.heap[g]? = some (.cells vs e (0, 0))) (ht : vs.toList.take row.length = row)
  (hrows : rows (Dat w' F' t) zs row) (hle : zs.length ≤ cap) (hF : F' g) {n : Nat} (hn : n = zs.length) : Rep w' F' m H (.data (.slice t) zs) (.slice (some ⟨g, 0, none⟩) n cap) := by
 subst hn
 unfold Rep
 show Dat w' F' (.slice t) zs [_]
 refine ⟨some ⟨g, 0, none⟩, cap, rfl, hle, fun _ => ⟨⟨g, 0, none⟩, row, rfl, hF, hrows, fun j u hj => ?_⟩⟩
 rw [Addr.add_lit, Nat.zero_add]
 have hj' : vs.toList[j]? = some u := by
  rw [← ht, List.getElem?_take] at hj
  split at hj
  ·exact hj
  ·cases hj
 rw [Array.getElem?_toList] at hj'
 simp [World.cell?, hg, hj']
theorem AKJ {w : World} {F : Nat → Prop} {m : Mp} {H : List Ob} {fz : List Bool} (hi : HI w F m H fz) {T e ty : TypeId} {t : Ty} {i : TypeInfo} {z : Value} (hu : P.underlying T = some (.slice e))
  (hi0 : P.info? e = some i) (hz : i.zero = some z) (hzs : z.cells.size = i.size) (hsz : i.size = t.size) (hpos : 0 < t.size) (hby : i.bytes ≤ 1024) {id : Nat} {xs : List t.den} (ho : H[id]? = some (.arr e t xs)) (hun : Aw fz id = true)
  {ys : List t.den} (hfit : xs.length + ys.length ≤ 4294967296)
  {A : Option Addr} {c : Nat} {news : List Value} (hA : ys ≠ [] → A.isSome = true) (hrows : rows (Dat w F t) ys news) (hnews : ∀ ad, A = some ad → ∀ j u, news[j]? = some u → w.cell? (ad.add j) = some u)
  {s : Value} (hs : Rep w F m H (.own id) s) :
  ∃ v w' F', (Builtin.append_ #[T, T] ty #[s, .slice A ys.length c]).run P w = .ok v w' ∧ Av w F m H fz w' F' m H (Ai [id] fz) ∧ Rep w' F' m H (.data (.slice t) (xs ++ ys)) v := by
 have hk := fun (x : t.den) cs (h : Dat w F t x cs) => Dat.length t h
 have hl := BK hk hrows
 have hid := Cr ho hun
 unfold Rep at hs
 rw [ho] at hs
 have hob := hi.obj id _ ho
 obtain ⟨_, hob'⟩ := hob
 cases hm : m id with
 | none =>
  rw [hm] at hs hob'
  obtain ⟨a, rfl⟩ := hs
  simp only at hob'
  subst hob'
  obtain ⟨v, w', hrun, h1, h2, h3, h4, h5, h6⟩ := Ke (P := P) (w := w) (ty := ty) hu hi0 hz hzs a (A := A) (m := ys.length) (c := c) (news := news) (by rw [hl, hsz]) (fun h => hA (by rintro rfl; simp at h)) hnews (by simpa using hfit) hby
  have hg := ABP (w' := w') hi ho hun h1 h2 h3 h4 (fun k => k = w.heap.size ∧ k < w'.heap.size) (fun k hk => ⟨hk.2, .inr (Nat.le_of_eq hk.1.symm)⟩) (fun b c h => by rw [hm] at h; cases h) (fun k hk _ => h5 k hk) (by
   rw [hm]; exact ⟨hpos, rfl⟩)
  refine ⟨v, w', _, hrun, hg, ?_⟩
  rw [List.nil_append]
  rcases h6 with ⟨h0, rfl⟩ | ⟨cap', vs, rfl, q1, q2, q3, q4, q5⟩
  ·have hy : ys = [] := List.eq_nil_of_length_eq_zero h0
   subst hy
   unfold Rep
   exact ⟨a, 0, rfl, Nat.le_refl _, fun h => absurd rfl h⟩
  ·have hcell : ∀ a : Addr, F a.block → w'.cell? a = w.cell? a := fun a ha => by simp [World.cell?, h5 _ (hi.lt _ ha)]
   exact AWf q1 (by rw [hl, ← hsz]; exact q5) (BO (fun x _ cs hx => hx.mono hcell (fun _ h => .inl h) t) hrows) q2 (.inr ⟨rfl, BL q1⟩) rfl
 | some p =>
  obtain ⟨b, cap⟩ := p
  rw [hm] at hs hob'
  simp only [Ba] at hs
  obtain ⟨vs, row, e1, e2, e3, e4, e5, e6⟩ := hob'
  subst hs
  have hrl := BK hk e5
  have hblt : b < w.heap.size := BL e1
  have hG : ∀ (w' : World), w.heap.size ≤ w'.heap.size → ∀ k, (k = b ∨ (k = w.heap.size ∧ k < w'.heap.size)) → k < w'.heap.size ∧ ((∃ c, m id = some (k, c)) ∨ w.heap.size ≤ k) := by
   rintro w' h k (rfl | ⟨h1, h2⟩)
   ·exact ⟨Nat.lt_of_lt_of_le hblt h, .inl ⟨cap, hm⟩⟩
   ·exact ⟨h2, .inr (Nat.le_of_eq h1.symm)⟩
  have main : ∀ (w' : World) (vs0 : Array Value), w'.os = w.os → w'.tape = w.tape → w'.output = w.output → w.heap.size ≤ w'.heap.size → (∀ k, k < w.heap.size → k ≠ b → w'.heap[k]? = w.heap[k]?) → w'.heap[b]? = some (.cells vs0 e (0, 0)) → vs0.size = cap * t.size → vs0.toList.take row.length = row →
    (∀ a : Addr, F a.block → w'.cell? a = w.cell? a) ∧ Av w F m H fz w' (fun k => F k ∨ (k = b ∨ (k = w.heap.size ∧ k < w'.heap.size))) m H (Ai [id] fz) := by
   intro w' vs0 h1 h2 h3 h4 h5 h6 h7 h8
   have hcell : ∀ a : Addr, F a.block → w'.cell? a = w.cell? a := fun a ha => by
    have h : a.block ≠ b := by rintro h; exact hi.off id b cap hid hm (h ▸ ha)
    simp [World.cell?, h5 _ (hi.lt _ ha) h]
   refine ⟨hcell, ABP hi ho hun h1 h2 h3 h4 _ (hG w' h4) (fun b' c' h => by rw [hm] at h; cases h; exact .inl rfl) (fun k hk hne => h5 k hk (by rintro rfl; exact hne cap hm)) ?_⟩
   rw [hm]
   exact ⟨hpos, vs0, row, h6, e2, e3, h7, BO (fun x _ cs hx => hx.mono hcell (fun _ h => .inl h) t) e5, h8⟩
  have hrr := Jr e5 hrows
  have hlen : (row ++ news).length = (xs.length + ys.length) * t.size := by rw [List.length_append, hrl, hl, Nat.add_mul]
  have fin : ∀ (w' : World) (g cap' : Nat) (vs' : Array Value), (∀ a : Addr, F a.block → w'.cell? a = w.cell? a) → (g = b ∨ (g = w.heap.size ∧ g < w'.heap.size)) → w'.heap[g]? = some (.cells vs' e (0, 0)) → xs.length + ys.length ≤ cap' → vs'.toList.take (row ++ news).length = row ++ news →
    Rep w' (fun k => F k ∨ (k = b ∨ (k = w.heap.size ∧ k < w'.heap.size))) m H (.data (.slice t) (xs ++ ys)) (.slice (some ⟨g, 0, none⟩) (xs.length + ys.length) cap') := by
   intro w' g cap' vs' hcell hg hgv hle htk
   exact AWf hgv htk (BO (fun x _ cs hx => hx.mono hcell (fun _ h => .inl h) t) hrr) (by simpa using hle) (.inr hg) (by simp)
  cases A with
  | none =>
   have hy : ys = [] := by
    cases ys with
    | nil => rfl
    | cons a b => exact absurd (hA (by simp)) (by simp)
   subst hy
   obtain ⟨hc, hgo⟩ := main w vs rfl rfl rfl (Nat.le_refl _) (fun _ _ _ => rfl) e1 e4 e6
   have hn0 : news = [] := List.eq_nil_of_length_eq_zero (by rw [hl]; simp)
   subst hn0
   exact ⟨_, w, _, Fj hu hi0 _ e2 none c, hgo, fin w b cap vs hc (.inl rfl) e1 (by simpa using e2) (by simpa using e6)⟩
  | some ad =>
   have hone : ∀ u ∈ news, u.oneCell' = true := fun u hu => Vb (fun x cs (h : Dat w F t x cs) => Dat.HT t h) hrows u hu
   by_cases hroom : xs.length + ys.length ≤ cap
   ·have hnl : news.length = ys.length * i.size := by rw [hl, hsz]
    have hsum : xs.length * i.size + news.length ≤ vs.size := by
     rw [hnl, e4, hsz, ← Nat.add_mul]; exact Nat.mul_le_mul_right _ hroom
    have hr := run_append_room (P := P) w T ty e i hu hi0 b xs.length cap vs e1 ad ys.length c news hnl (hnews ad rfl) hone hroom hsum
    have hrow : vs.toList.take (xs.length * i.size) = row := by rw [hsz, ← hrl]; exact e6
    rw [hrow] at hr
    obtain ⟨hc, hgo⟩ := main (w.setRow b (row ++ news ++ vs.toList.drop (xs.length * i.size + news.length)).toArray) (row ++ news ++ vs.toList.drop (xs.length * i.size + news.length)).toArray rfl rfl rfl (by simp) (fun k _ hk => setRow_other w b k _ hk) (setRow_heap w b vs (row ++ news ++ vs.toList.drop (xs.length * i.size + news.length)).toArray e _ e1) (by
     simp only [List.size_toArray, List.length_append, List.length_drop, Array.length_toList]
     rw [hrl, e4]
     rw [hsz] at hsum ⊢
     rw [e4] at hsum
     omega) (by rw [List.append_assoc]; exact List.take_left)
    exact ⟨_, _, _, hr, hgo, fin _ b cap _ hc (.inl rfl) (setRow_heap w b vs _ e _ e1) hroom (by exact List.take_left)⟩
   ·have hbytes : (xs.length + ys.length) * i.bytes ≤ 140737488355328 := Nat.le_trans (Nat.mul_le_mul hfit hby) (by omega)
    have holds : ∀ j u, row[j]? = some u → w.cell? ((⟨b, 0, none⟩ : Addr).add j) = some u := fun j u hj => by
     rw [Addr.add_lit, Nat.zero_add]
     have hj' : vs.toList[j]? = some u := by
      rw [← e6, List.getElem?_take] at hj
      split at hj
      ·exact hj
      ·cases hj
     rw [Array.getElem?_toList] at hj'
     simp [World.cell?, e1, hj']
    have hr := run_append_grow (P := P) w T ty e i z hu hi0 hz ⟨b, 0, none⟩ xs.length cap row (by rw [hrl, hsz]) holds ad ys.length c news (by rw [hl, hsz]) (hnews ad rfl) (by omega) (by omega) (growslice_fits (by omega) hbytes)
    obtain ⟨hc, hgo⟩ := main (w.drew.alloc (.cells (row.toArray ++ news.toArray ++ Builtin.zeroCells z.cells (grownCap w (xs.length + ys.length) cap e - (xs.length + ys.length))) e)) vs rfl rfl rfl (by simp) (fun k hk _ => heap_alloc_old w.drew _ k hk) ((heap_alloc_old w.drew _ b hblt).trans e1) e4 e6
    have hge := grownCap_ge w (xs.length + ys.length) cap e
    exact ⟨_, _, _, hr, hgo, fin _ w.heap.size _ _ hc (.inr ⟨rfl, BL (heap_alloc_new w.drew _)⟩) (heap_alloc_new w.drew _) hge (by
     rw [Array.toList_append, Array.toList_append]; exact List.take_left)⟩
end
end Go.Pev
end
section
namespace Go.Pev
open Go.RowKit
section
variable {P : Program}
theorem AY3 {w : World} {F : Nat → Prop} {m : Mp} {H : List Ob} {fz : List Bool} (hi : HI w F m H fz) {id : Nat} {T : TypeId} {tgt : Nat} {is : List Int} (ho : H[id]? = some (.prs T tgt is)) {v : Value} (hv : Rep w F m H (.own id) v) :
  ∃ A c, v = .slice A is.length c ∧ (is ≠ [] → A.isSome = true) ∧ ∃ us, AZ w F m H (Ei tgt is) us ∧ (∀ u ∈ us, u.oneCell' = true) ∧ ∀ ad, A = some ad → ∀ j u, us[j]? = some u → w.cell? (ad.add j) = some u := by
 have hob := hi.obj id _ ho
 unfold Rep at hv
 rw [ho] at hv
 cases hm : m id with
 | none =>
  rw [hm] at hv hob
  obtain ⟨a, rfl⟩ := hv
  have hob : is = [] := hob
  subst hob
  exact ⟨a, 0, rfl, fun h => absurd rfl h, [], by show AZ w F m H [] []; unfold AZ; rfl, (by simp), fun _ _ j u h => by simp at h⟩
 | some p =>
  obtain ⟨b, cap⟩ := p
  rw [hm] at hv hob
  simp only [Ba] at hv
  obtain ⟨vs, us, e1, e2, e3, e4, e5, e6, e7⟩ := hob
  refine ⟨some ⟨b, 0, none⟩, cap, hv, fun _ => rfl, us, e5, e6, fun ad h j u hu => ?_⟩
  cases h
  rw [Ct, DR e1]
  have := CK e7 hu
  rw [← this]; congr 1; omega
theorem IY {w : World} {F : Nat → Prop} {m : Mp} {H : List Ob} {fz : List Bool} (hi : HI w F m H fz) {slot : Nat} (hf : A3 H fz slot = true) {T e ty : TypeId} {i : TypeInfo} {z : Value} (hu : P.underlying T = some (.slice e))
  (hi0 : P.info? e = some i) (hz : i.zero = some z) (hzs : z.cells.size = 1) (hsz : i.size = 1) (hby : i.bytes ≤ 1024) {tgt : Nat} {ys : List Int} (hfit : ys.length ≤ 4294967296) (a : Option Addr)
  {A : Option Addr} {c : Nat} {news : List Value} (hA : ys ≠ [] → A.isSome = true) (hr : AZ w F m H (Ei tgt ys) news) (hone : ∀ u ∈ news, u.oneCell' = true) (hnews : ∀ ad, A = some ad → ∀ j u, news[j]? = some u → w.cell? (ad.add j) = some u) :
  ∃ v w' m', (Builtin.append_ #[T, T] ty #[.slice a 0 0, .slice A ys.length c]).run P w = .ok v w' ∧ Av w F m H fz w' F m' (H.set slot (.prs e tgt ys)) fz ∧ Rep w' F m' (H.set slot (.prs e tgt ys)) (.own slot) v := by
 have hl : news.length = ys.length := by rw [Ao hr, Vv]
 obtain ⟨v, w', hrun, h1, h2, h3, h4, h5, h6⟩ := Ke (P := P) (w := w) (ty := ty) hu hi0 hz (by rw [hzs, hsz]) a (A := A) (m := ys.length) (c := c) (news := news) (by rw [hl, hsz]; omega) (fun h => hA (by rintro rfl; simp at h)) hnews hfit hby
 rcases h6 with ⟨h0, rfl⟩ | ⟨cap', vs, rfl, q1, q2, q3, q4, q5⟩
 ·have hy : ys = [] := List.eq_nil_of_length_eq_zero h0
  subst hy
  have hgw := Av.grow hi h1 h2 h3 h4 h5
  obtain ⟨m', hg, hrep⟩ := AAD hgw.2 hf e tgt a
  exact ⟨_, w', m', hrun, hgw.trans hg, hrep⟩
 ·obtain ⟨m', hg, hrep⟩ := OC hi hf q1 h1 h2 h3 h4 h5 q2 q3 (by rw [q4, hsz]; omega) hr hone (by rw [hsz, Nat.mul_one] at q5; rw [hl]; exact q5)
  exact ⟨_, w', m', hrun, hg, hrep⟩
theorem Tb {w : World} {F : Nat → Prop} {m : Mp} {H : List Ob} {fz : List Bool} (hi : HI w F m H fz) {slot : Nat} (hf : A3 H fz slot = true) {T e ty : TypeId} {i : TypeInfo} {z : Value} (hu : P.underlying T = some (.slice e))
  (hi0 : P.info? e = some i) (hz : i.zero = some z) (hzs : z.cells.size = 1) (hsz : i.size = 1) (hby : i.bytes ≤ 1024) {tgt id : Nat} {xs : List Int} (ho : H[id]? = some (.prs e tgt xs))
  {b cap : Nat} (hm : m id = some (b, cap)) {ys : List Int} (hfit : xs.length + ys.length ≤ 4294967296)
  {A : Option Addr} {c : Nat} {news : List Value} (hA : ys ≠ [] → A.isSome = true) (hr : AZ w F m H (Ei tgt ys) news) (hone : ∀ u ∈ news, u.oneCell' = true) (hnews : ∀ ad, A = some ad → ∀ j u, news[j]? = some u → w.cell? (ad.add j) = some u) :
  ∃ v w' m', (Builtin.append_ #[T, T] ty #[.slice (some ⟨b, 0, none⟩) xs.length cap, .slice A ys.length c]).run P w = .ok v w' ∧
   Av w F m H fz w' F m' ((H.set id .dead).set slot (.prs e tgt (xs ++ ys))) fz ∧ Rep w' F m' ((H.set id .dead).set slot (.prs e tgt (xs ++ ys))) (.own slot) v := by
 have hl : news.length = ys.length := by rw [Ao hr, Vv]
 have hob := hi.obj id _ ho
 rw [hm] at hob
 obtain ⟨vs, us, e1, e2, e3, e4, e5, e6, e7⟩ := hob
 have hul : us.length = xs.length := by rw [Ao e5, Vv]
 have hold : vs.toList.take (xs.length * i.size) = us := by rw [hsz, Nat.mul_one, ← hul]; exact e7
 obtain ⟨v, w', hrun, hgr⟩ := Yy (P := P) (w := w) (ty := ty) hu hi0 hz (by rw [hzs, hsz]) (by omega) e1 (n := xs.length) e2 e3 (by rw [e4, hsz]; omega) (A := A) (m := ys.length) (c := c) (news := news) (by rw [hl, hsz]; omega) (fun h => hA (by rintro rfl; simp at h)) hnews
  hone hfit hby
 rw [hold] at hgr
 have hlen : (xs ++ ys).length = xs.length + ys.length := List.length_append ..
 have hr0 : AZ w F m H (Ei tgt (xs ++ ys)) (us ++ news) := by rw [AUd]; exact Fc e5 hr
 have hone0 : ∀ u ∈ us ++ news, u.oneCell' = true := fun u hu => by
  rcases List.mem_append.1 hu with h | h
  ·exact e6 u h
  ·exact hone u h
 have hlts := As (BU hf).1
 have hgs : ((H.set id .dead).set slot (.prs e tgt (xs ++ ys)))[slot]? = some (.prs e tgt (xs ++ ys)) := BP (by simpa using hlts)
 have hnl : (us ++ news).length = xs.length + ys.length := by rw [List.length_append, hul, hl]
 have main : ∀ (g cap' : Nat) (vs' : Array Value), (w.heap.size ≤ g ∨ g = b) → w'.heap[g]? = some (.cells vs' e (0, 0)) → xs.length + ys.length ≤ cap' → cap' ≤ maxLen → vs'.size = cap' → vs'.toList.take (xs.length + ys.length) = us ++ news →
   ∃ m', Av w F m H fz w' F m' ((H.set id .dead).set slot (.prs e tgt (xs ++ ys))) fz ∧ Rep w' F m' ((H.set id .dead).set slot (.prs e tgt (xs ++ ys))) (.own slot) (.slice (some ⟨g, 0, none⟩) (xs.length + ys.length) cap') := by
  intro g cap' vs' hg q1 q2 q3 q4 q5
  have := Av.move (w' := w') hi (ABD ho) hm hf (ob := .prs e tgt (xs ++ ys)) trivial (b' := g) (c' := cap') hg.symm hgr.os hgr.tape hgr.output hgr.size (fun k hk hne => hgr.keep k hk (fun b' h => by cases h; exact hne))
   (fun hmono => ⟨vs', us ++ news, q1, by rw [hlen]; exact q2, q3, q4, AKN hmono hr0, hone0, by rw [hnl]; exact q5⟩)
  refine ⟨_, this, ?_⟩
  unfold Rep
  rw [hgs, Ap, ← hlen]
  rfl
 rcases hgr.res with ⟨h0, rfl, rfl⟩ | ⟨g, cap', vs', rfl, q1, q2, q3, q4, q5, q6⟩
 ·have hy : ys = [] := List.eq_nil_of_length_eq_zero h0
  subst hy
  have hn0 : news = [] := List.eq_nil_of_length_eq_zero (by rw [hl]; rfl)
  subst hn0
  obtain ⟨m', hg, hrep⟩ := main b cap vs (.inr rfl) e1 (by simpa using e2) e3 e4 (by
   rw [List.append_nil, List.length_nil, Nat.add_zero, ← hul]
   exact e7)
  exact ⟨_, _, m', hrun, hg, by simpa using hrep⟩
 ·obtain ⟨m', hg, hrep⟩ := main g cap' vs' (by rcases q6 with h | h; exact .inl h; cases h; exact .inr rfl) q1 q2 q3 (by rw [q4, hsz]; omega) (by rw [hsz, Nat.mul_one] at q5; exact q5)
  exact ⟨_, _, m', hrun, hg, hrep⟩
end
end Go.Pev
end
section
namespace Go.Pev
open Go.RowKit
section
variable {P : Program} {E : Env}
theorem AFV (args : Array Operand) (ts : Array TypeId) : Claim P E (.call { callee := .builtin .append, args := args, argTypes := ts }) := by
 intro R ty ρ H fz slot k r h
 simp only [evalOp] at h
 split at h
 ·rename_i s x T T' ha hts
  obtain rfl := AYo ha
  obtain rfl := AYo hts
  split at h
  ·rename_i e t hsl hTT
   simp only [decide_eq_true_eq] at hTT
   subst hTT
   split at h
   ·rename_i ys fr zz hys hz hby
    obtain ⟨hu, hty0, hpos⟩ := DI hsl
    obtain ⟨t', cs'⟩ := zz
    obtain ⟨hty', hcs', i, z, hi0, hz0, hok, hsz, hza⟩ := B7 hz
    subst hcs'
    have : t' = t := by rw [hty0] at hty'; exact (Option.some.inj hty').symm
    subst this
    have hzs : z.cells.size = i.size := by
     have hzd := CE (w := default) (F := fun _ => False) t' _ hok
     rw [hsz, ← Array.length_toList]; exact Dat.length t' hzd
    have hby' : i.bytes ≤ 1024 := by simpa [hi0] using hby
    split at h
    ·rename_i et hs
     split at h
     ·rename_i hfit
      split at h
      ·rename_i hf
       refine ⟨_, _, h, fun R' k' => by simp only [evalOp, hsl, decide_true, hys, hz, hby, hs, hfit, hf], BB fun w F m ρc o hop hty hi hr => ?_⟩
       have hrs := hr s
       rw [hs] at hrs
       unfold Rep at hrs
       obtain ⟨A, c, q1, q2, q3, news, q4, q5⟩ := HA hi hys (hr x)
       obtain ⟨v, w', m', hrun, hg, hrep⟩ := JF (P := P) (ty := o.type) hi hf hu hi0 hz0 hzs hsz hpos hby' (by have : (ys.length : Int) ≤ 4294967296 := (G0 _).1 hfit; omega) none (c := c) q3 q4 q5
       exact ⟨v, w', F, m', CC hop hrs q1 hrun, hg, hrep⟩
      ·cases h
     ·cases h
    ·rename_i id hs
     split at h
     ·rename_i e' t2 xs ho
      split at h
      ·rename_i hue
       split at h
       ·rename_i xs' hc
        split at h
        ·rename_i hfit
         split at h
         ·rename_i hkp
          refine ⟨_, _, h, fun R' k' => by simp only [evalOp, hsl, decide_true, hys, hz, hby, hs, ho, hue, hc, hfit, hkp], BB fun w F m ρc o hop hty hi hr => ?_⟩
          simp only [Bool.and_eq_true, decide_eq_true_eq] at hue
          obtain ⟨hun, rfl⟩ := hue
          obtain ⟨et, hx⟩ := E1 hc
          subst et; simp only at hx; subst hx
          have hrs := hr s
          rw [hs] at hrs
          obtain ⟨A, c, q1, q2, q3, news, q4, q5⟩ := HA hi hys (hr x)
          have hfit' : xs.length + ys.length ≤ 4294967296 := by
           have : ((xs.length : Int) + (ys.length : Int)) ≤ 4294967296 := (G0 _).1 hfit
           omega
          obtain ⟨v, w', F', hrun, hg, hrep⟩ := AKJ (P := P) (ty := o.type) hi hu hi0 hz0 hzs hsz hpos hby' ho hun hfit' (c := c) q3 q4 q5 hrs
          exact ⟨v, w', F', m, CC hop rfl q1 hrun, hg, hrep⟩
         rename_i hkp
         split at h
         ·rename_i hf
          refine ⟨_, _, h, fun R' k' => by simp only [evalOp, hsl, decide_true, hys, hz, hby, hs, ho, hue, hc, hfit, hkp, hf], BB fun w F m ρc o hop hty hi hr => ?_⟩
          simp only [Bool.and_eq_true, decide_eq_true_eq] at hue
          obtain ⟨hun, rfl⟩ := hue
          obtain ⟨et, hx⟩ := E1 hc
          subst et; simp only at hx; subst hx
          have hrs := hr s
          rw [hs] at hrs
          unfold Rep at hrs
          rw [ho] at hrs
          obtain ⟨A, c, q1, q2, q3, news, q4, q5⟩ := HA hi hys (hr x)
          have hfit' : xs.length + ys.length ≤ 4294967296 := by
           have : ((xs.length : Int) + (ys.length : Int)) ≤ 4294967296 := (G0 _).1 hfit
           omega
          have hsn := AP3 hf ho
          cases hm : m id with
          | none =>
           obtain ⟨_, hob⟩ := hi.obj id _ ho
           rw [hm] at hrs hob
           obtain ⟨a, e1⟩ := hrs
           simp only at hob; subst hob
           have hkill := Av.kill hi (Cr ho hun)
           obtain ⟨v, w', m', hrun, hg, hrep⟩ := JF (P := P) (ty := o.type) hkill.2 (Ml hf hsn) hu hi0 hz0 hzs hsz hpos hby' (by simpa using hfit') a (c := c) q3 q4 q5
           exact ⟨v, w', F, m', CC hop e1 q1 hrun, hkill.trans hg, hrep⟩
          | some p =>
           obtain ⟨b, cap⟩ := p
           rw [hm] at hrs
           simp only [Ba] at hrs
           obtain ⟨v, w', m', hrun, hg, hrep⟩ := Sr (P := P) (ty := o.type) hi hf hu hi0 hz0 hzs hsz hpos hby' ho hun hm (Nat.le_refl _) hfit' (c := c) q3 q4 q5
           rw [List.take_length] at hg hrep
           exact ⟨v, w', F, m', CC hop hrs q1 hrun, hg, hrep⟩
         ·cases h
        ·cases h
       ·cases h
      ·cases h
     ·cases h
    ·rename_i id n hs
     split at h
     ·rename_i e' t2 xs ho
      split at h
      ·rename_i hue
       split at h
       ·rename_i xs' hc
        split at h
        ·rename_i hfit
         split at h
         ·rename_i hf
          refine ⟨_, _, h, fun R' k' => by simp only [evalOp, hsl, decide_true, hys, hz, hby, hs, ho, hue, hc, hfit, hf], BB fun w F m ρc o hop hty hi hr => ?_⟩
          simp only [Bool.and_eq_true, decide_eq_true_eq] at hue
          obtain ⟨hun, rfl⟩ := hue
          obtain ⟨et, hx⟩ := E1 hc
          subst et; simp only at hx; subst hx
          have hrs := hr s
          rw [hs] at hrs
          unfold Rep at hrs
          rw [ho] at hrs
          obtain ⟨hle, hrs⟩ := hrs
          obtain ⟨A, c, q1, q2, q3, news, q4, q5⟩ := HA hi hys (hr x)
          have hfit' : n + ys.length ≤ 4294967296 := by
           have : ((n : Int) + (ys.length : Int)) ≤ 4294967296 := (G0 _).1 hfit
           omega
          have hsn := AP3 hf ho
          obtain ⟨_, hob⟩ := hi.obj id _ ho
          have zero : ∀ a, n = 0 → ρc s = .slice a 0 0 → ∃ u w' F' m', (execOp ρc o).run P w = .ok (.value u) w' ∧ Av w F m H fz w' F' m' ((H.set id .dead).set slot (.arr e _ (A8 (Cv n xs) ys))) fz ∧
            Rep w' F' m' ((H.set id .dead).set slot (.arr e _ (A8 (Cv n xs) ys))) (.own slot) u := by
           intro a h0 e1
           subst h0
           have hkill := Av.kill hi (Cr ho hun)
           obtain ⟨v, w', m', hrun, hg, hrep⟩ := JF (P := P) (ty := o.type) hkill.2 (Ml hf hsn) hu hi0 hz0 hzs hsz hpos hby' (by simpa using hfit') a (c := c) q3 q4 q5
           exact ⟨v, w', F, m', CC hop e1 q1 hrun, hkill.trans hg, hrep⟩
          cases hm : m id with
          | none =>
           rw [hm] at hrs hob
           obtain ⟨a, e1⟩ := hrs
           simp only at hob; subst hob
           have hn : n = 0 := by simpa using hle
           exact zero a hn (by rw [e1, hn])
          | some p =>
           obtain ⟨b, cap⟩ := p
           rw [hm] at hrs hob
           obtain ⟨a, e1, e2⟩ := hrs
           obtain ⟨vs, row, o1, o2, _⟩ := hob
           rcases Nat.eq_zero_or_pos cap with hcap | hcap
           ·exact zero a (by omega) (by rw [e1, hcap, show n = 0 from by omega])
           ·have ha := e2 hcap
            rw [Nat.zero_mul] at ha
            subst ha
            obtain ⟨v, w', m', hrun, hg, hrep⟩ := Sr (P := P) (ty := o.type) hi hf hu hi0 hz0 hzs hsz hpos hby' ho hun hm (n := n) (by omega) hfit' (c := c) q3 q4 q5
            exact ⟨v, w', F, m', CC hop e1 q1 hrun, hg, hrep⟩
         ·cases h
        ·cases h
       ·cases h
      ·cases h
     ·cases h
    ·cases h
   ·cases h
  ·rename_i e t hsl hTT
   split at h
   ·rename_i et j n zz kk hs hx hz hk hby
    split at h
    ·rename_i hfit
     split at h
     ·rename_i hf
      refine ⟨_, _, h, fun R' k' => by simp only [evalOp, hsl, hTT, hs, hx, hz, hk, hby, hfit, hf], BB fun w F m ρc o hop hty hi hr => ?_⟩
      obtain ⟨hu, hty0, hpos⟩ := DI hsl
      obtain ⟨t', cs'⟩ := zz
      obtain ⟨hty', hcs', i, z, hi0, hz0, hok, hsz, hza⟩ := B7 hz
      subst hcs'
      have : t' = t := by rw [hty0] at hty'; exact (Option.some.inj hty').symm
      subst this
      rw [LX] at hfit
      obtain ⟨n', rfl⟩ := Int.eq_ofNat_of_zero_le hfit.1
      have hrs := hr s
      rw [hs] at hrs
      unfold Rep at hrs
      have e2 := A9 (hx ▸ hr x)
      have hby' : i.bytes ≤ 1024 := by simpa [hi0] using hby
      obtain ⟨v, w', m', hrun, hg, hrep⟩ := AKI (P := P) (ty := o.type) hi hf hu hi0 hz0 hok hsz hpos hby' (Se hk) (kx := j) (n := n') (by omega)
      exact ⟨v, w', F, m', AE7 hop hrs e2 hrun, hg, hrep⟩
     ·cases h
    ·cases h
   ·cases h
  ·rename_i hsl hTT
   simp only [decide_eq_true_eq] at hTT
   subst hTT
   split at h
   ·rename_i e ix hce hx
    split at h
    ·rename_i e1 tgt ys hox
     split at h
     ·rename_i he
      simp only [decide_eq_true_eq] at he
      subst he
      obtain ⟨hu, ii, z, hi0, hz0, hsz, hzs, hby⟩ := Sn hce
      split at h
      ·rename_i et hs
       split at h
       ·rename_i hfit
        split at h
        ·rename_i hf
         refine ⟨_, _, h, fun R' k' => by simp only [evalOp, hsl, decide_true, hce, hx, hox, hs, hfit, hf], BB fun w F m ρc o hop hty hi hr => ?_⟩
         have hrs := hr s
         rw [hs] at hrs
         unfold Rep at hrs
         obtain ⟨A, c, q1, q2, news, q3, q4, q5⟩ := AY3 hi hox (hx ▸ hr x)
         obtain ⟨v, w', m', hrun, hg, hrep⟩ := IY (P := P) (ty := o.type) hi hf hu hi0 hz0 hzs hsz hby (by have : (ys.length : Int) ≤ 4294967296 := (G0 _).1 hfit; omega) none (c := c) q2 q3 q4 q5
         exact ⟨v, w', F, m', CC hop hrs q1 hrun, hg, hrep⟩
        ·cases h
       ·cases h
      ·rename_i id hs
       split at h
       ·rename_i e2 tgt2 xs ho
        split at h
        ·rename_i hue
         split at h
         ·rename_i hfit
          split at h
          ·rename_i hf
           refine ⟨_, _, h, fun R' k' => by simp only [evalOp, hsl, decide_true, hce, hx, hox, hs, ho, hue, hfit, hf], BB fun w F m ρc o hop hty hi hr => ?_⟩
           simp only [Bool.and_eq_true, decide_eq_true_eq] at hue
           obtain ⟨rfl, rfl⟩ := hue
           have hrs := hr s
           rw [hs] at hrs
           unfold Rep at hrs
           rw [ho] at hrs
           obtain ⟨A, c, q1, q2, news, q3, q4, q5⟩ := AY3 hi hox (hx ▸ hr x)
           have hfit' : xs.length + ys.length ≤ 4294967296 := by
            have : ((xs.length : Int) + (ys.length : Int)) ≤ 4294967296 := (G0 _).1 hfit
            omega
           have hsn := AJS hf ho
           cases hm : m id with
           | none =>
            have hob := hi.obj id _ ho
            rw [hm] at hrs hob
            obtain ⟨a, e1⟩ := hrs
            have hob : xs = [] := hob
            subst hob
            have hkill := Av.kill hi (ABD ho)
            obtain ⟨v, w', m', hrun, hg, hrep⟩ := IY (P := P) (ty := o.type) hkill.2 (Ml hf hsn) hu hi0 hz0 hzs hsz hby (by simpa using hfit') a (c := c) q2 (hkill.1.AZ3 hi q3) q4 q5
            exact ⟨v, w', F, m', CC hop e1 q1 hrun, hkill.trans hg, hrep⟩
           | some p =>
            obtain ⟨b, cap⟩ := p
            rw [hm] at hrs
            simp only [Ba] at hrs
            obtain ⟨v, w', m', hrun, hg, hrep⟩ := Tb (P := P) (ty := o.type) hi hf hu hi0 hz0 hzs hsz hby ho hm hfit' (c := c) q2 q3 q4 q5
            exact ⟨v, w', F, m', CC hop hrs q1 hrun, hg, hrep⟩
          ·cases h
         ·cases h
        ·cases h
       ·cases h
      ·cases h
     ·cases h
    ·cases h
   ·cases h
  ·cases h
 ·cases h
end
end Go.Pev
end
section
namespace Go.Pev
open Go.RowKit
section
variable {P : Program} {E : Env}
theorem ATI (args : Array Operand) (ts : Array TypeId) : Claim P E (.call { callee := .builtin .cap, args := args, argTypes := ts }) := by
 intro R ty ρ H fz slot k r h
 simp only [evalOp] at h
 split at h
 ·rename_i x T ha hts
  obtain rfl := ATX ha
  obtain rfl := ATX hts
  split at h
  ·rename_i e et hu hx
   refine ⟨_, _, h, fun R' k' => by simp only [evalOp, hu, hx], AX fun w F m ρc o hop hty hi hr => ⟨.int .i64 0, ?_, Ar _ _⟩⟩
   have hrx := hr x
   rw [hx] at hrx
   unfold Rep at hrx
   simp [execOp, hop, resolve, invoke, builtin, hrx, Builtin.cap_, run_underlying hu, goInt]
  ·cases h
 ·cases h
theorem ATF (args : Array Operand) (ts : Array TypeId) : Claim P E (.call { callee := .builtin .min, args := args, argTypes := ts }) := by
 intro R ty ρ H fz slot k r h
 simp only [evalOp] at h
 split at h
 ·rename_i x y ha
  obtain rfl := AYo ha
  split at h
  ·rename_i j a j' b hx hy
   refine ⟨_, _, h, fun R' k' => by simp only [evalOp, hx, hy], AX fun w F m ρc o hop hty hi hr => ⟨.int j (Cy a b), ?_, Ar _ _⟩⟩
   have e1 := A9 (hx ▸ hr x)
   have e2 := A9 (hy ▸ hr y)
   simp [execOp, hop, resolve, invoke, builtin, e1, e2, run_min_int2, Cy]
  ·cases h
 ·cases h
theorem ZY {w : World} (ts : Array TypeId) (t : TypeId) (k k' : IntKind) (x y : Int) : (Builtin.max_ ts t #[.int k x, .int k' y]).run P w = .ok (.int k (if y > x then y else x)) w := by
 simp [Builtin.max_, Builtin.max2]
theorem ATG (args : Array Operand) (ts : Array TypeId) : Claim P E (.call { callee := .builtin .max, args := args, argTypes := ts }) := by
 intro R ty ρ H fz slot k r h
 simp only [evalOp] at h
 split at h
 ·rename_i x y ha
  obtain rfl := AYo ha
  split at h
  ·rename_i j a j' b hx hy
   refine ⟨_, _, h, fun R' k' => by simp only [evalOp, hx, hy], AX fun w F m ρc o hop hty hi hr => ⟨.int j (imax a b), ?_, Ar _ _⟩⟩
   have e1 := A9 (hx ▸ hr x)
   have e2 := A9 (hy ▸ hr y)
   simp [execOp, hop, resolve, invoke, builtin, e1, e2, ZY, imax]
  ·cases h
 ·cases h
theorem AGq {H : List Ob} {i : Nat} {o : Ob} (h : H[i]? = some o) : H.set i o = H := by
 apply List.ext_getElem?
 intro j
 by_cases hij : j = i
 ·subst hij; rw [BP (As h), h]
 ·rw [Ay hij]
theorem YS {α : Type} {off n : Nat} {z : α} {xs : List α} (h : off + n ≤ xs.length) : (CR off n z xs).length = xs.length := by
 simp only [CR, List.length_append, List.length_take, List.length_replicate, List.length_drop]; omega
theorem AJq {α : Type} (off : Nat) (z : α) (xs : List α) : CR off 0 z xs = xs := by simp [CR]
theorem ABp {w : World} {F : Nat → Prop} {m : Mp} {H : List Ob} {fz : List Bool} (hi : HI w F m H fz) {id : Nat} {T : TypeId} {t : Ty} {xs : List t.den} (ho : H[id]? = some (.arr T t xs)) (hf : Aw fz id = true)
  {b cap : Nat} (hm : m id = some (b, cap)) {off n : Nat} (hle : off + n ≤ xs.length) {z : List Value} (hz : Dat w F t t.zero z) (h1 : ∀ u ∈ z, u.oneCell' = true) {zs : Array Value} (hzs : zs.toList = (List.replicate n z).flatten) :
  ∃ w', (storeCells ⟨b, off * t.size, none⟩ zs.toList).run P w = .ok () w' ∧ Av w F m H fz w' F m (H.set id (.arr T t (CR off n t.zero xs))) fz := by
 have hob := hi.obj id _ ho
 obtain ⟨h0, hob⟩ := hob
 rw [hm] at hob
 obtain ⟨vs, row, e1, e2, e3, e4, e7, e8⟩ := hob
 have hk := fun (x : t.den) cs (h : Dat w F t x cs) => Dat.length t h
 have hlen := BK hk e7
 have hrz := EJ (w := w) (F := F) hz n
 have hdl := BK hk hrz
 rw [List.length_replicate, ← hzs] at hdl
 have hle1 : off * t.size + n * t.size ≤ xs.length * t.size := by
  have := Nat.mul_le_mul_right t.size hle
  rwa [Nat.add_mul] at this
 have hle2 : xs.length * t.size ≤ cap * t.size := Nat.mul_le_mul_right _ e2
 have hvl : vs.toList.length = cap * t.size := by rw [Array.length_toList, e4]
 have hst := run_storeCells_at P b (off * t.size) T zs.toList 0 vs w e1 (by simp only [Nat.add_zero, hdl, e4]; omega) (by
  intro u hu
  rw [hzs, List.mem_flatten] at hu
  obtain ⟨l, hl, hul⟩ := hu
  rw [List.eq_of_mem_replicate hl] at hul
  exact h1 u hul)
 simp only [Nat.add_zero, hdl] at hst
 obtain ⟨r1, r2, r3, r4, r5⟩ := Jn (w := w) (b := b) (cs := (vs.toList.take (off * t.size) ++ zs.toList ++ vs.toList.drop (off * t.size + n * t.size)).toArray)
 refine ⟨_, hst, ?_⟩
 refine Av.set hi (Cr ho hf) hm ho ⟨rfl, (YS hle).symm⟩ r1 r2 r3 r4 r5 fun hmono => ?_
 refine ⟨h0, ?_⟩
 rw [hm]
 refine ⟨_, row.take (off * t.size) ++ (zs.toList ++ row.drop (off * t.size + n * t.size)), setRow_heap w b vs _ T _ e1, by rw [YS hle]; exact e2, e3, ?_, ?_, ?_⟩
 ·simp only [List.size_toArray, List.length_append, List.length_take, List.length_drop, hvl, hdl]; omega
 ·have hcell : ∀ a : Addr, F a.block → (w.setRow b (vs.toList.take (off * t.size) ++ zs.toList ++ vs.toList.drop (off * t.size + n * t.size)).toArray).cell? a = w.cell? a := fun a ha =>
   cell_setRow_other w b _ a (by rintro rfl; exact hi.off id _ cap (Cr ho hf) hm ha)
  refine BO (R := Dat w F t) (fun x _ cs hx => hx.mono hcell (fun _ h => h) t) ?_
  have := H8 hk (off + n) e7
  rw [Nat.add_mul] at this
  exact Jr (Ee hk off e7) (Jr (by rw [hzs]; exact hrz) this)
 ·have hrl : (row.take (off * t.size) ++ (zs.toList ++ row.drop (off * t.size + n * t.size))).length = row.length := by
   simp only [List.length_append, List.length_take, List.length_drop, hdl]; omega
  rw [hrl]
  show List.take row.length (vs.toList.take (off * t.size) ++ zs.toList ++ vs.toList.drop (off * t.size + n * t.size)) = _
  have h1 : row.take (off * t.size) = vs.toList.take (off * t.size) := by
   rw [← e8, List.take_take, Nat.min_eq_left (by omega)]
  have h2 : row.drop (off * t.size + n * t.size) = (vs.toList.drop (off * t.size + n * t.size)).take (row.length - (off * t.size + n * t.size)) := by
   conv => lhs; rw [← e8]
   rw [List.drop_take]
  rw [h1, h2, List.take_append, List.take_of_length_le (by simp only [List.length_append, List.length_take, hvl, hdl]; omega), List.append_assoc]
  congr 3
  simp only [List.length_append, List.length_take, hvl, hdl]; omega
theorem G2 {w w' : World} {ρc : Operand → Value} {o : Oper} {T : TypeId} {x : Operand} {v : Value} (hop : o.op = .call { callee := .builtin .clear, args := #[x], argTypes := #[T] }) (e1 : ρc x = v)
  (hrun : (Builtin.clear_ #[T] o.type #[v]).run P w = .ok (.tuple #[]) w') : (execOp ρc o).run P w = .ok (.value (.tuple #[])) w' := by simp [execOp, hop, resolve, invoke, builtin, e1, hrun]
theorem Gi {w : World} {T e ty : TypeId} (hu : P.underlying T = some (.slice e)) (a : Option Addr) (c : Nat) : (Builtin.clear_ #[T] ty #[.slice a 0 c]).run P w = .ok (.tuple #[]) w := by
 cases a <;> simp [Builtin.clear_, run_underlying hu]
theorem Jp {w w' : World} {T e ty : TypeId} (hu : P.underlying T = some (.slice e)) {i : TypeInfo} {z : Value} (hi0 : P.info? e = some i) (hz : i.zero = some z) (a : Addr) {n : Nat} (hn : 0 < n) (c : Nat)
  (h : (storeCells a (Builtin.zeroCells z.cells n).toList).run P w = .ok () w') : (Builtin.clear_ #[T] ty #[.slice (some a) n c]).run P w = .ok (.tuple #[]) w' := by
 obtain ⟨m, rfl⟩ : ∃ m, n = m + 1 := ⟨n - 1, by omega⟩
 simp [Builtin.clear_, run_underlying hu, Bg hi0 hz, h]
theorem AQA {w : World} {F : Nat → Prop} {t : Ty} {d : t.den} {z : List Value} (h : Dat w F t d z) : ∀ u ∈ z, u.oneCell' = true := fun u hu => Dat.HT t h u hu
theorem AJ3 (args : Array Operand) (ts : Array TypeId) : Claim P E (.call { callee := .builtin .clear, args := args, argTypes := ts }) := by
 intro R ty ρ H fz slot k r h
 simp only [evalOp] at h
 split at h
 ·rename_i x T ha hts
  obtain rfl := ATX ha
  obtain rfl := ATX hts
  split at h
  ·rename_i e t hsl
   split at h
   ·rename_i zz hz
    obtain ⟨hu, hty0, hpos⟩ := DI hsl
    obtain ⟨t', cs'⟩ := zz
    obtain ⟨hty', hcs', i, z, hi0, hz0, hok, hsz, hza⟩ := B7 hz
    subst hcs'
    have : t' = t := by rw [hty0] at hty'; exact (Option.some.inj hty').symm
    subst this
    have hcells : ∀ k, (Builtin.zeroCells z.cells k).toList = (List.replicate k z.cells.toList).flatten := DK z.cells
    split at h
    ·rename_i et hx
     refine ⟨_, _, h, fun R' k' => by simp only [evalOp, hsl, hz, hx], BB fun w F m ρc o hop hty hi hr => ?_⟩
     have hrx := hr x
     rw [hx] at hrx
     unfold Rep at hrx
     exact ⟨_, w, F, m, G2 hop hrx (Gi hu _ _), Av.refl hi, by unfold Rep; trivial⟩
    ·rename_i id hx
     split at h
     ·rename_i e' t2 xs ho
      split at h
      ·rename_i hun
       refine ⟨_, _, h, fun R' k' => by simp only [evalOp, hsl, hz, hx, ho, hun], BB fun w F m ρc o hop hty hi hr => ?_⟩
       simp only [Bool.and_eq_true, decide_eq_true_eq] at hun
       obtain ⟨hun, ht⟩ := hun
       subst ht
       have hzd := CE (w := w) (F := F) t' _ hok
       have hrx := hr x
       rw [hx] at hrx
       unfold Rep at hrx
       rw [ho] at hrx
       obtain ⟨_, hob⟩ := hi.obj id _ ho
       have none_ : xs = [] → ∀ a c, ρc x = .slice a 0 c → ∃ u w' F' m', (execOp ρc o).run P w = .ok (.value u) w' ∧ Av w F m H fz w' F' m' (De { objs := [(id, .arr e' t' (CR 0 xs.length t'.zero xs))] } H) (JH { objs := [(id, .arr e' t' (CR 0 xs.length t'.zero xs))] } fz) ∧
         Rep w' F' m' (De { objs := [(id, .arr e' t' (CR 0 xs.length t'.zero xs))] } H) .junk u := by
        intro hxs a c e1
        refine ⟨_, w, F, m, G2 hop e1 (Gi hu _ _), ?_, by unfold Rep; trivial⟩
        have : CR 0 xs.length t'.zero xs = xs := by rw [hxs]; rfl
        rw [this]
        have hs : De { objs := [(id, .arr e' t' xs)] } H = H := AGq ho
        rw [hs]
        exact Av.refl hi
       cases hm : m id with
       | none =>
        rw [hm] at hrx hob
        obtain ⟨a, e1⟩ := hrx
        simp only at hob
        exact none_ hob a 0 e1
       | some p =>
        obtain ⟨b, cap⟩ := p
        rw [hm] at hrx
        simp only [Ba] at hrx
        rcases Nat.eq_zero_or_pos xs.length with hl | hl
        ·exact none_ (List.eq_nil_of_length_eq_zero hl) (some ⟨b, 0, none⟩) cap (by rw [hrx, hl])
        ·obtain ⟨w', hst, hg⟩ := ABp (P := P) hi ho hun hm (off := 0) (n := xs.length) (by omega) hzd (AQA hzd) (hcells xs.length)
         rw [Nat.zero_mul] at hst
         exact ⟨_, w', F, m, G2 hop hrx (Jp hu hi0 hz0 _ hl _ hst), hg, by unfold Rep; trivial⟩
      ·cases h
     ·cases h
    ·rename_i id off n hx
     split at h
     ·rename_i e' t2 xs ho
      split at h
      ·rename_i hun
       refine ⟨_, _, h, fun R' k' => by simp only [evalOp, hsl, hz, hx, ho, hun], BB fun w F m ρc o hop hty hi hr => ?_⟩
       simp only [Bool.and_eq_true, decide_eq_true_eq] at hun
       obtain ⟨hun, ht⟩ := hun
       subst ht
       have hzd := CE (w := w) (F := F) t' _ hok
       have hrx := hr x
       rw [hx] at hrx
       unfold Rep at hrx
       rw [ho] at hrx
       obtain ⟨hle, hrx⟩ := hrx
       obtain ⟨_, hob⟩ := hi.obj id _ ho
       have none_ : n = 0 → ∀ a c, ρc x = .slice a n c → ∃ u w' F' m', (execOp ρc o).run P w = .ok (.value u) w' ∧ Av w F m H fz w' F' m' (De { objs := [(id, .arr e' t' (CR off n t'.zero xs))] } H) (JH { objs := [(id, .arr e' t' (CR off n t'.zero xs))] } fz) ∧
         Rep w' F' m' (De { objs := [(id, .arr e' t' (CR off n t'.zero xs))] } H) .junk u := by
        intro hxs a c e1
        subst hxs
        refine ⟨_, w, F, m, G2 hop e1 (Gi hu _ _), ?_, by unfold Rep; trivial⟩
        rw [AJq]
        have hs : De { objs := [(id, .arr e' t' xs)] } H = H := AGq ho
        rw [hs]
        exact Av.refl hi
       cases hm : m id with
       | none =>
        rw [hm] at hrx hob
        obtain ⟨a, e1⟩ := hrx
        simp only at hob
        subst hob
        exact none_ (by simp at hle; omega) a 0 e1
       | some p =>
        obtain ⟨b, cap⟩ := p
        rw [hm] at hrx hob
        obtain ⟨vs, row, o1, o2, _⟩ := hob
        obtain ⟨a, e1, e2⟩ := hrx
        rcases Nat.eq_zero_or_pos n with hl | hl
        ·exact none_ hl a _ e1
        ·have ha := e2 (by omega)
         subst ha
         obtain ⟨w', hst, hg⟩ := ABp (P := P) hi ho hun hm (off := off) (n := n) hle hzd (AQA hzd) (hcells n)
         exact ⟨_, w', F, m, G2 hop e1 (Jp hu hi0 hz0 _ hl _ hst), hg, by unfold Rep; trivial⟩
      ·cases h
     ·cases h
    ·cases h
   ·cases h
  ·cases h
 ·cases h
end
end Go.Pev
end
section
namespace Go.Pev
open Go.RowKit
section
variable {P : Program}
def CP : (t : Ty) → t.den → List Value
 | .unit, _ => []
 | .bool, b => [.bool b]
 | .int k, n => [.int k n]
 | .prod a b, d => CP a d.1 ++ CP b d.2
 | .slice _, _ => []
 | .arr _ _, _ => []
def Bw (t : Ty) (d : t.den) : Value := match t, d with
 | .int k, n => .int k n
 | t, d => .agg (CP t d).toArray
structure ATc (P : Program) (kt : TypeId) (t : Ty) : Prop where
 rep : ∀ (w : World) (F : Nat → Prop) (d : t.den) (v : Value), Bc w F t d v ↔ v = Bw t d
 check : ∀ (w : World) (b : Bool) (d : t.den), (Instr.checkKey b 10000 kt (Bw t d)).run P w = .ok () w
 stays : ∀ (w : World) (d : t.den), (Instr.keyThatStays (Bw t d) (Bw t d)).run P w = .ok (Bw t d) w
 find : ∀ (w : World) (F : Nat → Prop) (b : Ty) (key : t.den) (es : List (t.den × b.den)) (ms : List MapEntry), HN w F t b es ms →
  (@Fk _ _ (decDen t) es key = none ∧ @AT _ _ (decDen t) es key = none ∧ (Instr.findKey kt (Bw t key) ms).run P w = .ok none w) ∨
  (∃ x n me, @Fk _ _ (decDen t) es key = some n ∧ @AT _ _ (decDen t) es key = some x ∧ (Instr.findKey kt (Bw t key) ms).run P w = .ok (some (n, me.val)) w ∧ ms[n]? = some me ∧ Bc w F b x me.val ∧ me.key = Bw t key)
theorem ATc.store {kt : TypeId} {t : Ty} (hK : ATc P kt t) {w : World} {F : Nat → Prop} {b : Ty} (key : t.den) (val : b.den) (v : Value) (hv : Bc w F b val v) : ∀ {es : List (t.den × b.den)} {ms : List MapEntry}, HN w F t b es ms →
  (∀ clock, @Fk _ _ (decDen t) es key = none → HN w F t b (@Ah _ _ (decDen t) es key val) (ms ++ [{ key := Bw t key, val := v, born := clock }])) ∧
  (∀ n, @Fk _ _ (decDen t) es key = some n → HN w F t b (@Ah _ _ (decDen t) es key val) (ms.modify n fun e => { e with key := Bw t key, val := v })) := by
 haveI := decDen t
 intro es
 induction es with
 | nil =>
  rintro ms rfl
  exact ⟨fun clock _ => ⟨_, [], rfl, ⟨(hK.rep w F key _).2 rfl, hv⟩, rfl⟩, fun n h => by simp [Fk] at h⟩
 | cons e es ih =>
  rintro ms ⟨me0, ms', rfl, ⟨h1, h2⟩, h3⟩
  obtain ⟨a, x⟩ := e
  obtain ⟨ih1, ih2⟩ := ih h3
  by_cases hak : a = key
  ·subst hak
   refine ⟨fun clock h => by simp [Fk] at h, fun n h => ?_⟩
   simp only [Fk, if_true, Option.some.injEq] at h
   subst h
   simp only [Ah, if_true, List.modify_zero_cons]
   exact ⟨_, ms', rfl, ⟨(hK.rep w F a _).2 rfl, hv⟩, h3⟩
  ·simp only [Ah, hak, if_false, Fk]
   refine ⟨fun clock h => ?_, fun n h => ?_⟩
   ·rw [Option.map_eq_none_iff] at h
    exact ⟨me0, _, rfl, ⟨h1, h2⟩, ih1 clock h⟩
   ·rw [Option.map_eq_some_iff] at h
    obtain ⟨n', h', rfl⟩ := h
    rw [List.modify_succ_cons]
    exact ⟨me0, _, rfl, ⟨h1, h2⟩, ih2 n' h'⟩
theorem AX8 {kt : TypeId} {j : IntKind} (hu : P.underlying kt = some (.int j)) : ATc P kt (.int j) := by
 have hrep : ∀ (w : World) (F : Nat → Prop) (d : Int) (v : Value), Bc w F (.int j) d v ↔ v = .int j d := by
  intro w F d v
  show Dat w F (.int j) d [v] ↔ _
  simp [Dat]
 refine ⟨hrep, fun w b d => ?_, fun w d => ?_, fun w F b key es ms h => ?_⟩
 ·have gen : ∀ n, (Instr.checkKey b (n + 1) kt (.int j d)).run P w = .ok () w := fun n => by simp [Instr.checkKey, run_underlying hu]
  exact gen 9999
 ·have gen : ∀ n, Instr.sameBits n (.int j d) (.int j d) = true := fun n => by cases n <;> simp [Instr.sameBits]
  show (Instr.keyThatStays (.int j d) (.int j d)).run P w = _
  simp [Instr.keyThatStays, gen]
  rfl
 ·have hfk : ∀ r, Instr.findNow (.int j) (.int j key) ms 0 = some r → (Instr.findKey kt (.int j key) ms).run P w = .ok r w := by
   intro r hr'
   simp [Instr.findKey, run_underlying hu, hr']
  have gen : ∀ (es : List (Int × b.den)) (ms : List MapEntry) (i : Nat), HN w F (.int j) b es ms →
    (Fk (α := Int) es key = none ∧ AT (α := Int) es key = none ∧ Instr.findNow (.int j) (.int j key) ms i = some none) ∨
    (∃ x n me, Fk (α := Int) es key = some n ∧ AT (α := Int) es key = some x ∧ Instr.findNow (.int j) (.int j key) ms i = some (some (i + n, me.val)) ∧ ms[n]? = some me ∧ Bc w F b x me.val ∧ me.key = .int j key) := by
   intro es
   induction es with
   | nil => rintro ms i rfl; exact .inl ⟨rfl, rfl, rfl⟩
   | cons e es ih =>
    rintro ms i ⟨me, ms', rfl, ⟨h1, h2⟩, h3⟩
    obtain ⟨a, x⟩ := e
    have hk := (hrep w F a _).1 h1
    simp only at h2
    by_cases hak : a = key
    ·subst hak
     refine .inr ⟨x, 0, me, by simp [Fk], by simp [AT], ?_, rfl, h2, hk⟩
     simp [Instr.findNow, Instr.sameNow, hk]
    ·have hfn : Instr.findNow (.int j) (.int j key) (me :: ms') i = Instr.findNow (.int j) (.int j key) ms' (i + 1) := by
      have : (key == a) = false := by simp; exact fun h => hak h.symm
      simp [Instr.findNow, Instr.sameNow, hk, this]
     rcases ih ms' (i + 1) h3 with ⟨q0, q1, q2⟩ | ⟨y, n, me', q0, q1, q2, q3, q4, q5⟩
     ·exact .inl ⟨by simp [Fk, hak, q0], by simp [AT, hak, q1], by rw [hfn]; exact q2⟩
     ·exact .inr ⟨y, n + 1, me', by simp [Fk, hak, q0], by simp [AT, hak, q1], by rw [hfn, q2, show i + 1 + n = i + (n + 1) from by omega], by simpa using q3, q4, q5⟩
  rcases gen es ms 0 h with ⟨q0, q1, q2⟩ | ⟨x, n, me, q0, q1, q2, q3, q4, q5⟩
  ·exact .inl ⟨q0, q1, hfk _ q2⟩
  ·rw [Nat.zero_add] at q2
   exact .inr ⟨x, n, me, q0, q1, hfk _ q2, q3, q4, q5⟩
theorem OL {w : World} {F : Nat → Prop} : ∀ (t : Ty) {n : List Bool}, kinds? t = some n → ∀ (d : t.den) (cs : List Value), Dat w F t d cs ↔ cs = CP t d
 | .unit, _, _, d, cs => Iff.rfl
 | .prod (.int k) r, n, h, d, cs => by
  simp only [kinds?, Option.map_eq_some_iff] at h
  obtain ⟨n', h', rfl⟩ := h
  constructor
  ·rintro ⟨c1, c2, rfl, h1, h2⟩
   rw [(OL r h' d.2 c2).1 h2]
   have h1 : c1 = [.int k d.1] := h1
   rw [h1]; rfl
  ·rintro rfl
   exact ⟨[.int k d.1], CP r d.2, rfl, rfl, (OL r h' d.2 _).2 rfl⟩
 | .prod .bool r, n, h, d, cs => by
  simp only [kinds?, Option.map_eq_some_iff] at h
  obtain ⟨n', h', rfl⟩ := h
  constructor
  ·rintro ⟨c1, c2, rfl, h1, h2⟩
   rw [(OL r h' d.2 c2).1 h2]
   have h1 : c1 = [.bool d.1] := h1
   rw [h1]; rfl
  ·rintro rfl
   exact ⟨[.bool d.1], CP r d.2, rfl, rfl, (OL r h' d.2 _).2 rfl⟩
 | .prod .unit _, _, h, _, _ => by simp [kinds?] at h
 | .prod (.slice _) _, _, h, _, _ => by simp [kinds?] at h
 | .prod (.prod _ _) _, _, h, _, _ => by simp [kinds?] at h
 | .prod (.arr _ _) _, _, h, _, _ => by simp [kinds?] at h
 | .bool, _, h, _, _ => by simp [kinds?] at h
 | .int _, _, h, _, _ => by simp [kinds?] at h
 | .slice _, _, h, _, _ => by simp [kinds?] at h
 | .arr _ _, _, h, _, _ => by simp [kinds?] at h
theorem Q4 : ∀ (t : Ty) {n : List Bool}, kinds? t = some n → ∀ (d d' : t.den), BA n (BF t d) (BF t d') = some (@decide (d = d') (decDen t d d'))
 | .unit, n, h, d, d' => by
  simp only [kinds?, Option.some.injEq] at h
  subst h
  cases d; cases d'
  simp [BF, BA]
 | .prod (.int k) r, n, h, d, d' => by
  simp only [kinds?, Option.map_eq_some_iff] at h
  obtain ⟨n', h', rfl⟩ := h
  obtain ⟨a, x⟩ := d
  obtain ⟨b, y⟩ := d'
  have := Q4 r h' x y
  simp only [BF, List.singleton_append, BA, decide_true, this, ES]
  congr 1
  by_cases h1 : a = b
  ·subst h1
   by_cases h2 : x = y
   ·subst h2; simp
   ·simp [h2]
  ·simp [h1]
 | .prod .bool r, n, h, d, d' => by
  simp only [kinds?, Option.map_eq_some_iff] at h
  obtain ⟨n', h', rfl⟩ := h
  obtain ⟨a, x⟩ := d
  obtain ⟨b, y⟩ := d'
  have := Q4 r h' x y
  simp only [BF, List.singleton_append, BA, this]
  congr 1
  by_cases h1 : a = b
  ·subst h1
   by_cases h2 : x = y
   ·subst h2; simp
   ·simp [h2]
  ·simp [h1]
 | .prod .unit _, _, h, _, _ => by simp [kinds?] at h
 | .prod (.slice _) _, _, h, _, _ => by simp [kinds?] at h
 | .prod (.prod _ _) _, _, h, _, _ => by simp [kinds?] at h
 | .prod (.arr _ _) _, _, h, _, _ => by simp [kinds?] at h
 | .bool, _, h, _, _ => by simp [kinds?] at h
 | .int _, _, h, _, _ => by simp [kinds?] at h
 | .slice _, _, h, _, _ => by simp [kinds?] at h
 | .arr _ _, _, h, _, _ => by simp [kinds?] at h
theorem Mj : ∀ (t : Ty) {n : List Bool}, kinds? t = some n → ∀ (d : t.den), ∀ v ∈ CP t d, (∃ k i, v = .int k i) ∨ ∃ b, v = .bool b
 | .unit, _, _, d, v, hv => by simp [CP] at hv
 | .prod (.int k) r, n, h, d, v, hv => by
  simp only [kinds?, Option.map_eq_some_iff] at h
  obtain ⟨n', h', rfl⟩ := h
  simp only [CP, List.singleton_append, List.mem_cons] at hv
  rcases hv with rfl | hv
  ·exact .inl ⟨_, _, rfl⟩
  ·exact Mj r h' d.2 v hv
 | .prod .bool r, n, h, d, v, hv => by
  simp only [kinds?, Option.map_eq_some_iff] at h
  obtain ⟨n', h', rfl⟩ := h
  simp only [CP, List.singleton_append, List.mem_cons] at hv
  rcases hv with rfl | hv
  ·exact .inr ⟨_, rfl⟩
  ·exact Mj r h' d.2 v hv
 | .prod .unit _, _, h, _, _, _ => by simp [kinds?] at h
 | .prod (.slice _) _, _, h, _, _, _ => by simp [kinds?] at h
 | .prod (.prod _ _) _, _, h, _, _, _ => by simp [kinds?] at h
 | .prod (.arr _ _) _, _, h, _, _, _ => by simp [kinds?] at h
 | .bool, _, h, _, _, _ => by simp [kinds?] at h
 | .int _, _, h, _, _, _ => by simp [kinds?] at h
 | .slice _, _, h, _, _, _ => by simp [kinds?] at h
 | .arr _ _, _, h, _, _, _ => by simp [kinds?] at h
theorem IJ {t : Ty} {n : List Bool} (h : kinds? t = some n) (d : t.den) : Bw t d = .agg (CP t d).toArray ∧ t.isAgg = true := by
 cases t <;> first | exact ⟨rfl, rfl⟩ | (simp [kinds?] at h)
end
end Go.Pev
end
section
namespace Go.Pev
open Go.RowKit
section
variable {P : Program}
theorem Mk : ∀ (t : Ty) {n : List Bool}, kinds? t = some n → ∀ (d : t.den), (CP t d).length = n.length
 | .unit, n, h, d => by simp only [kinds?, Option.some.injEq] at h; subst h; rfl
 | .prod (.int k) r, n, h, d => by
  simp only [kinds?, Option.map_eq_some_iff] at h
  obtain ⟨n', h', rfl⟩ := h
  simp [CP, Mk r h' d.2]
 | .prod .bool r, n, h, d => by
  simp only [kinds?, Option.map_eq_some_iff] at h
  obtain ⟨n', h', rfl⟩ := h
  simp [CP, Mk r h' d.2]
 | .prod .unit _, _, h, _ => by simp [kinds?] at h
 | .prod (.slice _) _, _, h, _ => by simp [kinds?] at h
 | .prod (.prod _ _) _, _, h, _ => by simp [kinds?] at h
 | .prod (.arr _ _) _, _, h, _ => by simp [kinds?] at h
 | .bool, _, h, _ => by simp [kinds?] at h
 | .int _, _, h, _ => by simp [kinds?] at h
 | .slice _, _, h, _ => by simp [kinds?] at h
 | .arr _ _, _, h, _ => by simp [kinds?] at h
theorem AFW {w : World} {T : TypeId} (h : Jo P T = true) (b : Bool) (n : Nat) {v : Value} : (Instr.checkKey b (n + 1) T v).run P w = .ok () w := by
 rcases Bk h with ⟨k, hk, _⟩ | ⟨hk, _⟩
 ·simp [Instr.checkKey, run_underlying hk]
 ·simp [Instr.checkKey, run_underlying hk]
theorem AFX {w : World} (b : Bool) (d : Nat) (xs : Array Value) : ∀ (fs : List Field) (i : Nat), DC P fs i = true → i + fs.length ≤ xs.size →
  (forIn fs PUnit.unit fun (f : Field) (_ : PUnit) => ((if f.name ≠ "_" then (part f.type xs f.offset >>= fun v => Instr.checkKey b (d + 1) f.type v >>= fun _ => pure (ForInStep.yield PUnit.unit)) else pure (ForInStep.yield PUnit.unit)) : Sem (ForInStep PUnit))).run P w = .ok PUnit.unit w := by
 intro fs
 induction fs with
 | nil => intro i _ _; simp [Sem.run_pure]
 | cons f fs ih =>
  intro i hok hl
  simp only [DC, Bool.and_eq_true, bne_iff_ne, decide_eq_true_eq] at hok
  obtain ⟨hn, ho, hsc, hok⟩ := hok
  rw [List.length_cons] at hl
  have hag : Df P f.type = some false := by
   rcases Bk hsc with ⟨k, hk, _⟩ | ⟨hk, _⟩ <;> simp [Df, hk]
  have hlt : i < xs.size := by omega
  have p1 : (part f.type xs f.offset).run P w = .ok xs[i] w := by
   rw [ho]; simp [part, B6 hag, hlt]
  have h3 := ih (i + 1) hok (by omega)
  simp only [List.forIn_cons, Sem.run_bind, hn, ne_eq, not_false_eq_true, if_true, p1, Result.andThen_ok, AFW hsc, Sem.run_pure]
  exact h3
theorem ANN {kt : TypeId} {t : Ty} {n : List Bool} (hs : structEq P kt = some n) (hk : kinds? t = some n) : ATc P kt t := by
 obtain ⟨fs, hu, hgt, hst, hok, hn⟩ := ZV hs
 have hfo : P.fieldsOf kt = fs := by simp [Program.fieldsOf, hu]
 have hrep : ∀ (w : World) (F : Nat → Prop) (d : t.den) (v : Value), Bc w F t d v ↔ v = Bw t d := by
  intro w F d v
  obtain ⟨e1, e2⟩ := IJ hk d
  unfold Bc
  rw [if_pos e2, e1]
  constructor
  ·rintro ⟨vs, rfl, h⟩
   have := (OL t hk d _).1 h
   rw [← this]
  ·rintro rfl
   exact ⟨_, rfl, (OL t hk d _).2 (by simp)⟩
 have hlen : ∀ d : t.den, (CP t d).length = fs.size := by
  intro d
  rw [Mk t hk d, hn, List.length_map, Array.length_toList]
 refine ⟨hrep, fun w b d => ?_, fun w d => ?_, fun w F b key es ms h => ?_⟩
 ·rw [(IJ hk d).1]
  have := fun m => AFX (P := P) (w := w) b m (CP t d).toArray fs.toList 0 hok (by rw [List.size_toArray, hlen, Array.length_toList]; omega)
  have gen : ∀ m, (Instr.checkKey b (m + 1 + 1) kt (.agg (CP t d).toArray)).run P w = .ok () w := by
   intro m
   rw [Instr.checkKey]
   simp only [Sem.run_bind, run_underlying hu, Result.andThen_ok]
   rw [← Array.forIn_toList, this m]
   rfl
  exact gen 9998
 ·rw [(IJ hk d).1]
  have gen : ∀ m, Instr.sameBits (m + 1) (.agg (CP t d).toArray) (.agg (CP t d).toArray) = true := by
   intro m
   have hz : ∀ l : List Value, (∀ v ∈ l, (∃ k i, v = .int k i) ∨ ∃ b, v = .bool b) → ((l.zip l).all fun p => Instr.sameBits m p.1 p.2) = true := by
    intro l
    induction l with
    | nil => intro _; rfl
    | cons v l ih =>
     intro h
     rw [List.zip_cons_cons, List.all_cons, ih (fun x hx => h x (by simp [hx]))]
     rcases h v (by simp) with ⟨k, i, rfl⟩ | ⟨b, rfl⟩
     ·cases m <;> simp [Instr.sameBits]
     ·cases m <;> simp [Instr.sameBits]
   simp only [Instr.sameBits, beq_self_eq_true, Bool.true_and]
   exact hz _ (Mj t hk d)
  unfold Instr.keyThatStays
  rw [gen 9999]
  rfl
 ·have heq : ∀ d d' : t.den, (Op.equal kt (Bw t d) (Bw t d')).run P w = .ok (@decide (d = d') (decDen t d d')) w := by
   intro d d'
   rw [(IJ hk d).1, (IJ hk d').1]
   unfold Op.equal Op.maxDepth
   rw [run_equalIn_agg w 9999 kt _ _ (by rw [hfo]; exact hu) hst, hfo]
   have r : ∀ x : t.den, AZ w F (fun _ => none) [] (BF t x) ((CP t x).toArray.toList.drop 0) := fun x => G1 t ((OL t hk x _).2 (by simp))
   exact OI 9998 _ _ fs.toList 0 (BF t d) (BF t d') _ hok (r d) (r d') (by rw [← hn]; exact Q4 t hk d d')
  have gen : ∀ (es : List (t.den × b.den)) (ms : List MapEntry) (i : Nat), HN w F t b es ms →
    (Fk es key = none ∧ AT es key = none ∧ (Instr.findAsking kt (Bw t key) ms i).run P w = .ok none w) ∨
    (∃ x n me, Fk es key = some n ∧ AT es key = some x ∧ (Instr.findAsking kt (Bw t key) ms i).run P w = .ok (some (i + n, me.val)) w ∧ ms[n]? = some me ∧ Bc w F b x me.val ∧ me.key = Bw t key) := by
   intro es
   induction es with
   | nil => rintro ms i rfl; exact .inl ⟨rfl, rfl, by simp [Instr.findAsking]⟩
   | cons e es ih =>
    rintro ms i ⟨me, ms', rfl, ⟨h1, h2⟩, h3⟩
    obtain ⟨a, x⟩ := e
    have hkk := (hrep w F a _).1 h1
    simp only at h2
    have hq := heq key a
    by_cases hak : a = key
    ·subst hak
     rw [decide_eq_true rfl] at hq
     refine .inr ⟨x, 0, me, by simp [Fk], by simp [AT], ?_, rfl, h2, hkk⟩
     simp [Instr.findAsking, hkk, hq]
    ·rw [decide_eq_false (fun h => hak h.symm)] at hq
     have hfn : (Instr.findAsking kt (Bw t key) (me :: ms') i).run P w = (Instr.findAsking kt (Bw t key) ms' (i + 1)).run P w := by
      simp [Instr.findAsking, hkk, hq]
     rcases ih ms' (i + 1) h3 with ⟨q0, q1, q2⟩ | ⟨y, n, me', q0, q1, q2, q3, q4, q5⟩
     ·exact .inl ⟨by simp [Fk, hak, q0], by simp [AT, hak, q1], by rw [hfn]; exact q2⟩
     ·exact .inr ⟨y, n + 1, me', by simp [Fk, hak, q0], by simp [AT, hak, q1], by rw [hfn, q2, show i + 1 + n = i + (n + 1) from by omega], by simpa using q3, q4, q5⟩
  have hfk : ∀ r, (Instr.findAsking kt (Bw t key) ms).run P w = .ok r w → (ms = [] → r = none) → (Instr.findKey kt (Bw t key) ms).run P w = .ok r w := by
   intro r hr' hnil
   cases ms with
   | nil => simp [Instr.findKey, run_underlying hu, Instr.findNow, hnil rfl]
   | cons me ms =>
    simp only [Instr.findKey, Sem.run_bind, run_underlying hu, Result.andThen_ok, Instr.findNow, Instr.sameNow]
    exact hr'
  rcases gen es ms 0 h with ⟨q0, q1, q2⟩ | ⟨x, n, me, q0, q1, q2, q3, q4, q5⟩
  ·exact .inl ⟨q0, q1, hfk _ q2 (fun _ => rfl)⟩
  ·rw [Nat.zero_add] at q2
   exact .inr ⟨x, n, me, q0, q1, hfk _ q2 (fun e => by subst e; simp at q3), q3, q4, q5⟩
theorem Z4 {T : TypeId} {t : Ty} (h : Np P T = some t) : ∃ e k, P.underlying T = some (.array 2 e) ∧ P.underlying e = some (.int k) ∧ BI P e = some 1 ∧ t = .prod (.int k) (.prod (.int k) .unit) := by
 unfold Np at h
 split at h
 ·rename_i n e hu
  split at h
  ·rename_i k hn he hs
   rw [decide_eq_true_eq] at hn hs
   subst hn
   cases h
   exact ⟨e, k, hu, he, hs, rfl⟩
  ·cases h
 ·cases h
theorem AVn {kt : TypeId} {t : Ty} (hp : Np P kt = some t) : ATc P kt t := by
 obtain ⟨e, j, hu, he, hs, rfl⟩ := Z4 hp
 obtain ⟨i0, hi0, hi1⟩ := BQ hs
 have hk : kinds? (.prod (.int j) (.prod (.int j) .unit)) = some [true, true] := rfl
 have hag : Df P e = some false := by simp [Df, he]
 have hsz : ∀ w, (sizeOf e).run P w = .ok 1 w := fun w => by rw [run_sizeOf hi0, hi1]
 have hkv : ∀ d : (Ty.prod (.int j) (.prod (.int j) .unit)).den, Bw (.prod (.int j) (.prod (.int j) .unit)) d = .agg #[.int j d.1, .int j d.2.1] := fun d => rfl
 have hrep : ∀ (w : World) (F : Nat → Prop) (d : (Ty.prod (.int j) (.prod (.int j) .unit)).den) (v : Value), Bc w F (.prod (.int j) (.prod (.int j) .unit)) d v ↔ v = Bw (.prod (.int j) (.prod (.int j) .unit)) d := by
  intro w F d v
  obtain ⟨e1, e2⟩ := IJ hk d
  unfold Bc
  rw [if_pos e2, e1]
  constructor
  ·rintro ⟨vs, rfl, h⟩
   have := (OL _ hk d _).1 h
   rw [← this]
  ·rintro rfl
   exact ⟨_, rfl, (OL _ hk d _).2 (by simp)⟩
 have hpart : ∀ (w : World) (a b : Value), (part e #[a, b] 0).run P w = .ok a w ∧ (part e #[a, b] 1).run P w = .ok b w := fun w a b => by
  constructor <;> simp [part, B6 hag]
 have hck1 : ∀ (w : World) (b : Bool) (n : Nat) (d : Int), (Instr.checkKey b (n + 1) e (.int j d)).run P w = .ok () w := fun w b n d => by simp [Instr.checkKey, run_underlying he]
 refine ⟨hrep, fun w b d => ?_, fun w d => ?_, fun w F b key es ms h => ?_⟩
 ·rw [hkv]
  have gen : ∀ m, (Instr.checkKey b (m + 1 + 1) kt (.agg #[.int j d.1, .int j d.2.1])).run P w = .ok () w := by
   intro m
   rw [Instr.checkKey]
   simp only [Sem.run_bind, run_underlying hu, Result.andThen_ok]
   simp [Std.Legacy.Range.forIn_eq_forIn_range', Std.Legacy.Range.size, List.range', hsz, (hpart w _ _).1, (hpart w _ _).2, hck1]
  exact gen 9998
 ·rw [hkv]
  have gen : ∀ m, Instr.sameBits (m + 1) (.agg #[.int j d.1, .int j d.2.1]) (.agg #[.int j d.1, .int j d.2.1]) = true := by
   intro m
   cases m <;> simp [Instr.sameBits]
  unfold Instr.keyThatStays
  rw [gen 9999]
  rfl
 ·have heq : ∀ d d' : (Ty.prod (.int j) (.prod (.int j) .unit)).den, (Op.equal kt (Bw (.prod (.int j) (.prod (.int j) .unit)) d) (Bw (.prod (.int j) (.prod (.int j) .unit)) d')).run P w = .ok (@decide (d = d') (decDen (.prod (.int j) (.prod (.int j) .unit)) d d')) w := by
   intro d d'
   rw [hkv, hkv]
   have hone : ∀ (n : Nat) (a b : Int), (Op.equalIn (n + 1) e (.int j a) (.int j b)).run P w = .ok (a == b) w := fun n a b => by simp [Op.equalIn, run_underlying he]
   have gen : ∀ n, (Op.equalIn (n + 1 + 1) kt (.agg #[.int j d.1, .int j d.2.1]) (.agg #[.int j d'.1, .int j d'.2.1])).run P w = .ok ((d.1 == d'.1) && (d.2.1 == d'.2.1)) w := by
    intro n
    rw [Op.equalIn]
    simp only [Sem.run_bind, run_underlying hu, Result.andThen_ok, hsz]
    simp only [Std.Legacy.Range.forIn_eq_forIn_range', Std.Legacy.Range.size, List.range', Nat.zero_mul, Nat.one_mul]
    by_cases h1 : d.1 = d'.1
    ·by_cases h2 : d.2.1 = d'.2.1 <;> simp [hone, (hpart w _ _).1, (hpart w _ _).2, h1, h2]
    ·simp [hone, (hpart w _ _).1, (hpart w _ _).2, h1]
   unfold Op.equal
   have := gen 9998
   rw [show Op.maxDepth = 9998 + 1 + 1 from rfl, this]
   congr 1
   rw [Bool.eq_iff_iff, Bool.and_eq_true, beq_iff_eq, beq_iff_eq]
   rw [decide_eq_true_iff]
   obtain ⟨a, b, ⟨⟩⟩ := d
   obtain ⟨a', b', ⟨⟩⟩ := d'
   constructor
   ·rintro ⟨h1, h2⟩
    have h1 : a = a' := h1
    have h2 : b = b' := h2
    rw [h1, h2]
   ·intro h
    cases h
    exact ⟨rfl, rfl⟩
  have gen : ∀ (es : List ((Ty.prod (.int j) (.prod (.int j) .unit)).den × b.den)) (ms : List MapEntry) (i : Nat), HN w F (.prod (.int j) (.prod (.int j) .unit)) b es ms →
    (@Fk _ _ (decDen _) es key = none ∧ @AT _ _ (decDen _) es key = none ∧ (Instr.findAsking kt (Bw (.prod (.int j) (.prod (.int j) .unit)) key) ms i).run P w = .ok none w) ∨
    (∃ x n me, @Fk _ _ (decDen _) es key = some n ∧ @AT _ _ (decDen _) es key = some x ∧ (Instr.findAsking kt (Bw (.prod (.int j) (.prod (.int j) .unit)) key) ms i).run P w = .ok (some (i + n, me.val)) w ∧ ms[n]? = some me ∧ Bc w F b x me.val ∧ me.key = Bw (.prod (.int j) (.prod (.int j) .unit)) key) := by
   intro es
   induction es with
   | nil => rintro ms i rfl; exact .inl ⟨rfl, rfl, by simp [Instr.findAsking]⟩
   | cons e' es ih =>
    rintro ms i ⟨me, ms', rfl, ⟨h1, h2⟩, h3⟩
    obtain ⟨a, x⟩ := e'
    have hkk := (hrep w F a _).1 h1
    simp only at h2
    have hq := heq key a
    by_cases hak : a = key
    ·subst hak
     rw [decide_eq_true rfl] at hq
     refine .inr ⟨x, 0, me, by simp [Fk], by simp [AT], ?_, rfl, h2, hkk⟩
     simp [Instr.findAsking, hkk, hq]
    ·rw [decide_eq_false (fun h => hak h.symm)] at hq
     have hfn : (Instr.findAsking kt (Bw (.prod (.int j) (.prod (.int j) .unit)) key) (me :: ms') i).run P w = (Instr.findAsking kt (Bw (.prod (.int j) (.prod (.int j) .unit)) key) ms' (i + 1)).run P w := by
      simp [Instr.findAsking, hkk, hq]
     rcases ih ms' (i + 1) h3 with ⟨q0, q1, q2⟩ | ⟨y, n, me', q0, q1, q2, q3, q4, q5⟩
     ·exact .inl ⟨by simp [Fk, hak, q0], by simp [AT, hak, q1], by rw [hfn]; exact q2⟩
     ·exact .inr ⟨y, n + 1, me', by simp [Fk, hak, q0], by simp [AT, hak, q1], by rw [hfn, q2, show i + 1 + n = i + (n + 1) from by omega], by simpa using q3, q4, q5⟩
  have hfk : ∀ r, (Instr.findAsking kt (Bw (.prod (.int j) (.prod (.int j) .unit)) key) ms).run P w = .ok r w → (ms = [] → r = none) → (Instr.findKey kt (Bw (.prod (.int j) (.prod (.int j) .unit)) key) ms).run P w = .ok r w := by
   intro r hr' hnil
   cases ms with
   | nil => simp [Instr.findKey, run_underlying hu, Instr.findNow, hnil rfl]
   | cons me ms =>
    simp only [Instr.findKey, Sem.run_bind, run_underlying hu, Result.andThen_ok, Instr.findNow, Instr.sameNow]
    exact hr'
  rcases gen es ms 0 h with ⟨q0, q1, q2⟩ | ⟨x, n, me, q0, q1, q2, q3, q4, q5⟩
  ·exact .inl ⟨q0, q1, hfk _ q2 (fun _ => rfl)⟩
  ·rw [Nat.zero_add] at q2
   exact .inr ⟨x, n, me, q0, q1, hfk _ q2 (fun e => by subst e; simp at q3), q3, q4, q5⟩
theorem Nw {kt : TypeId} {t : Ty} (h : Sf P kt = some t) : ATc P kt t := by
 unfold Sf at h
 split at h
 ·rename_i t' hi
  cases h
  unfold AVp at hi
  split at hi
  ·rename_i k hu
   cases hi
   exact AX8 hu
  ·cases hi
 ·split at h
  ·rename_i n t' hs ht
   split at h
   ·rename_i hd
    cases h
    exact ANN hs (of_decide_eq_true hd)
   ·cases h
  ·exact AVn h
end
end Go.Pev
end
section
namespace Go.Pev
open Go.RowKit
section
variable {P : Program} {E : Env}
theorem AOT (hE : ∀ g, AR P g (E.spec g)) (f : Operand) (args : Array Operand) (ts : Array TypeId) : Claim P E (.call { callee := .value f, args := args, argTypes := ts }) := by
 intro R ty ρ H fz slot k r h
 simp only [evalOp] at h
 split at h
 ·rename_i g caps hf
  obtain ⟨v, e, h1, h2, h3, h4⟩ := hE g R _ H fz slot k r h
  refine ⟨v, e, h1, fun R' k' => by simp only [evalOp, hf]; exact h2 R' k', ?_⟩
  intro w F m a o next Q hop hty hi hr hn
  have hrf := hr f
  rw [hf] at hrf
  unfold Rep at hrf
  obtain ⟨cs, e1, e2⟩ := hrf
  have hargs : AZ w F m H (args.toList.map ρ ++ caps) ((args.map a.eval ++ cs).toList) := by
   rw [Array.toList_append, Array.toList_map]
   exact Fc (Cx (by simp) fun i c v hc hv => by
    rw [List.getElem?_map] at hc hv
    cases hx : args.toList[i]? with
    | none => rw [hx] at hc; cases hc
    | some x =>
     rw [hx] at hc hv
     cases hc; cases hv
     exact hr x) e2
  have hcall := h4 w F m _ hi hargs
  rw [Array.toArray_toList] at hcall
  unfold Oper.wp
  have hrun : (execOp a.eval o).run P w = .ok (.enter g (args.map a.eval ++ cs)) w := by
   simp [execOp, hop, resolve, e1, Deferred.ofValue, invoke, h3 _ w]
  rw [hrun]
  exact hcall.mono fun en w' ⟨u, hen, F', m', hg, hrep⟩ => by
   subst hen
   exact hn u w' F' m' hg hrep
 ·rename_i g caps hf
  obtain ⟨v, e, h1, h2, h3, h4⟩ := hE g R _ H fz slot k r h
  refine ⟨v, e, h1, fun R' k' => by simp only [evalOp, hf]; exact h2 R' k', ?_⟩
  intro w F m a o next Q hop hty hi hr hn
  have hrf := hr f
  rw [hf] at hrf
  unfold Rep at hrf
  obtain ⟨cs, e1, e2⟩ := hrf
  have hargs : AZ w F m H (caps ++ args.toList.map ρ) ((cs ++ args.map a.eval).toList) := by
   rw [Array.toList_append, Array.toList_map]
   exact Fc e2 (Cx (by simp) fun i c v hc hv => by
    rw [List.getElem?_map] at hc hv
    cases hx : args.toList[i]? with
    | none => rw [hx] at hc; cases hc
    | some x =>
     rw [hx] at hc hv
     cases hc; cases hv
     exact hr x)
  have hcall := h4 w F m _ hi hargs
  rw [Array.toArray_toList] at hcall
  unfold Oper.wp
  have hrun : (execOp a.eval o).run P w = .ok (.enter g (cs ++ args.map a.eval)) w := by
   simp [execOp, hop, resolve, e1, Deferred.ofValue, invoke, h3 _ w]
  rw [hrun]
  exact hcall.mono fun en w' ⟨u, hen, F', m', hg, hrep⟩ => by
   subst hen
   exact hn u w' F' m' hg hrep
 ·cases h
theorem AKs {T : TypeId} (h : AO9 P T = true) : P.underlying T = some .string := by
 unfold AO9 at h
 split at h
 ·assumption
 ·cases h
theorem AFY {T : TypeId} (h : T3 P T = true) : ∃ e, P.underlying T = some (.slice e) ∧ P.underlying e = some (.int .u8) := by
 unfold T3 at h
 split at h
 ·rename_i e hu
  split at h
  ·rename_i hu'; exact ⟨e, hu, hu'⟩
  ·cases h
 ·cases h
theorem ALD {w : World} {F : Nat → Prop} : ∀ {xs : List Int} {row : List Value}, rows (Dat w F (.int .u8)) xs row → row = xs.map (Value.int .u8) := by
 intro xs
 induction xs with
 | nil => rintro row rfl; rfl
 | cons x xs ih =>
  rintro row ⟨c1, c2, rfl, h1, h2⟩
  rw [ih h2]
  have h1 : c1 = [.int .u8 x] := by simpa [Dat] using h1
  rw [h1]; rfl
theorem ALj : ∀ (xs : List Int) (s : ByteArray), bytesOf (xs.foldl (fun r n => r.push (UInt8.ofNat n.toNat)) s) = bytesOf s ++ YT xs := by
 intro xs
 induction xs with
 | nil => intro s; simp [YT]
 | cons x xs ih =>
  intro s
  rw [List.foldl_cons, ih]
  simp [bytesOf, YT, ByteArray.push]
theorem AWh {S T : TypeId} {x : Operand} {w : World} {F : Nat → Prop} {m : Mp} {H : List Ob} {fz : List Bool} {v : AV} {xs : List Int} {fr : List Nat} {ρc : Operand → Value} {o : Oper} (hop : o.op = .convert S T x)
  (hs : T3 P S = true) (hd : AO9 P T = true) (hi : HI w F m H fz) (hx : E3 H (.slice (.int .u8)) v = some (xs, fr)) (hr : Rep w F m H v (ρc x)) :
  ∃ u, (execOp ρc o).run P w = .ok (.value u) w ∧ Rep w F m H (.str (YT xs)) u := by
 obtain ⟨e, h1, h2⟩ := AFY hs
 have h3 := AKs hd
 obtain ⟨a, cap, e1, hle, hne, news, hrows, hcell⟩ := HA hi hx hr
 cases a with
 | none =>
  have hxs : xs = [] := by
   cases xs with
   | nil => rfl
   | cons a b => exact absurd (hne (by simp)) (by simp)
  subst hxs
  refine ⟨.string ByteArray.empty, ?_, ?_⟩
  ·simp [execOp, hop, e1, run_convert_bytes_string w S T e none _ _ h1 h2 h3, Conv.bytesToString]
  ·unfold Rep; exact ⟨_, rfl, rfl⟩
 | some ad =>
  have hn := ALD hrows
  subst hn
  have hl : (Go.loadCells ad xs.length).run P w = .ok (xs.map (Value.int .u8)).toArray w := by
   have := run_loadCells_list (P := P) w ad (xs.map (Value.int .u8)) (fun j v hj => hcell ad rfl j v hj)
   simpa using this
  refine ⟨.string (xs.foldl (fun r n => r.push (UInt8.ofNat n.toNat)) ByteArray.empty), ?_, ?_⟩
  ·simp [execOp, hop, e1, run_convert_bytes_string w S T e (some ad) _ _ h1 h2 h3, run_bytesToString w ad _ cap xs hl]
  ·unfold Rep; exact ⟨_, rfl, (ALj _ _).trans (List.nil_append _)⟩
theorem AAS (S T : TypeId) (x : Operand) : Claim P E (.convert S T x) := by
 intro R ty ρ H fz slot k r h
 simp only [evalOp] at h
 split at h
 ·rename_i j' n j hx hs hk
  refine ⟨_, _, h, fun R' k' => by simp only [evalOp, hx, hs, hk], AX fun w F m ρc o hop hty hi hr => ⟨.int j (j.wrap n), ?_, Ar _ _⟩⟩
  have e1 := A9 (hx ▸ hr x)
  obtain ⟨d, hd⟩ := Option.isSome_iff_exists.1 hs
  simp [execOp, hop, e1, convert, run_underlying hd, run_underlying (Se hk), Conv.intToInt]
 ·rename_i v b1 b2 hne
  split at h
  ·rename_i hs hd
   split at h
   ·rename_i xs fr hx
    refine ⟨_, _, h, fun R' k' => ?_, AX fun w F m ρc o hop hty hi hr => AWh hop hs hd hi hx (hr x)⟩
    simp only [evalOp]
    simp only [hs, hd, hx]
   ·cases h
  ·cases h
theorem AUX {w : World} {F : Nat → Prop} {k : IntKind} {n : Int} {v : Value} (h : Bc w F (.int k) n v) : v = .int k n := by
 unfold Bc at h
 have h : Dat w F (.int k) n [v] := h
 simpa [Dat] using h
theorem CW {w : World} {r : Nat} {ms : Array MapEntry} {clock : Nat} (h : w.heap[r]? = some (.map ms clock)) : (getObj r).run P w = .ok (.map ms clock) w := by
 simp [getObj, Sem.run, h]
theorem AFS (T : TypeId) (mm x : Operand) (ok : Bool) : Claim P E (.lookup T mm x ok) := by
 intro R ty ρ H fz slot k r h
 simp only [evalOp] at h
 split at h
 ·rename_i kt vt id hu hm
  split at h
  ·rename_i ka b es ho
   split at h
   ·rename_i b' cs' hkt hz
    split at h
    ·rename_i key fr hb hx
     simp only [decide_eq_true_eq] at hb
     subst hb
     have hkt' := hkt
     simp only [decide_eq_true_eq] at hkt'
     have hK := Nw hkt'
     obtain ⟨hty', hcs', i, z, hi0, hz0, hok, hsz, hza⟩ := B7 hz
     subst hcs'
     have main : ∀ (w : World) (F : Nat → Prop) (m : Mp) (ρc : Operand → Value) (o : Oper), o.op = .lookup T mm x ok → HI w F m H fz → (∀ x, Rep w F m H (ρ x) (ρc x)) →
       ∃ u, (execOp ρc o).run P w = .ok (.value (if ok then .tuple #[u, .bool (AT (α := ka.den) es key).isSome] else u)) w ∧ Bc w F b' ((AT (α := ka.den) es key).getD b'.zero) u := by
      intro w F m ρc o hop hi hr
      have hrm := hr mm
      rw [hm] at hrm
      unfold Rep at hrm
      rw [ho] at hrm
      obtain ⟨bb, c, e1, e2⟩ := hrm
      obtain ⟨b2, c', ms, clock, e3, e4, e5, _⟩ := hi.obj id _ ho
      rw [e1] at e3; cases e3
      have hkv : ρc x = Bw ka key := (hK.rep _ _ _ _).1 (FM hi hx (hr x))
      have hck := hK.check w ms.isEmpty key
      rcases hK.find w F _ key es ms.toList e5 with ⟨_, q1, q2⟩ | ⟨y, n, me, _, q1, q2, q3, q4, _⟩
      ·refine ⟨z, ?_, by rw [q1]; exact PG hok hza⟩
       rw [q1]
       simp only [execOp, hop, e2, hkv, Instr.lookup, Sem.run_bind, run_underlying hu, Result.andThen_ok, CW e4, hck, q2, Bg hi0 hz0, Sem.run_pure]
       cases ok <;> rfl
      ·refine ⟨me.val, ?_, by rw [q1]; exact q4⟩
       rw [q1]
       simp only [execOp, hop, e2, hkv, Instr.lookup, Sem.run_bind, run_underlying hu, Result.andThen_ok, CW e4, hck, q2, Sem.run_pure]
       cases ok <;> rfl
     split at h
     ·refine ⟨_, _, h, fun R' k' => by simp only [evalOp, hu, hm, ho, hkt, hz, decide_true, hx], AX fun w F m ρc o hop hty hi hr => ?_⟩
      obtain ⟨u, h1, h2⟩ := main w F m ρc o hop hi hr
      refine ⟨_, h1, ?_⟩
      unfold Rep
      refine ⟨_, rfl, ?_⟩
      unfold AZ
      refine ⟨u, _, rfl, by unfold Rep; exact h2, Y0 (BR _)⟩
     ·refine ⟨_, _, h, fun R' k' => by simp only [evalOp, hu, hm, ho, hkt, hz, decide_true, hx], AX fun w F m ρc o hop hty hi hr => ?_⟩
      obtain ⟨u, h1, h2⟩ := main w F m ρc o hop hi hr
      exact ⟨u, h1, by unfold Rep; exact h2⟩
    ·cases h
   ·cases h
  ·cases h
 ·cases h
theorem Dp {w : World} {r : Nat} {ms ms' : Array MapEntry} {clock clock' : Nat} (h : w.heap[r]? = some (.map ms clock)) :
  (setObj r (.map ms' clock')).run P w = .ok () { w with heap := w.heap.setIfInBounds r (.map ms' clock') } := by
 simp [setObj, Sem.run, h]
theorem G9.push {ms : Array MapEntry} {clock : Nat} (h : G9 ms clock) (key val : Value) : G9 (ms.push { key := key, val := val, born := clock }) (clock + 1) := by
 obtain ⟨h1, h2⟩ := h
 refine ⟨by rw [Array.size_push, h1], fun i e he => ?_⟩
 rw [Array.getElem?_push] at he
 split at he
 ·cases he
  show clock = _
  omega
 ·exact h2 i e he
theorem G9.modify {ms : Array MapEntry} {clock : Nat} (h : G9 ms clock) (n : Nat) {f : MapEntry → MapEntry} (hf : ∀ e, (f e).born = e.born) : G9 (ms.modify n f) clock := by
 obtain ⟨h1, h2⟩ := h
 refine ⟨by rw [Array.size_modify, h1], fun i e he => ?_⟩
 rw [Array.getElem?_modify] at he
 split at he
 ·rw [Option.map_eq_some_iff] at he
  obtain ⟨e', he', rfl⟩ := he
  rw [hf]; exact h2 i e' he'
 ·exact h2 i e he
theorem TW (T : TypeId) (mm x y : Operand) : Claim P E (.mapUpdate T mm x y) := by
 intro R ty ρ H fz slot k r h
 simp only [evalOp] at h
 split at h
 ·rename_i kt vt id hu hm
  split at h
  ·rename_i ka b es ho
   split at h
   ·rename_i key fr0 val fr hkt hx hy
    refine ⟨_, _, h, fun R' k' => by simp only [evalOp, hu, hm, ho, hkt, hx, hy], GP fun w F m ρc o hop hty hi hr => ?_⟩
    have hkt' := hkt
    simp only [decide_eq_true_eq] at hkt'
    have hK := Nw hkt'
    have hgf := Av.freeze hi fr
    have hrm := hr mm
    rw [hm] at hrm
    unfold Rep at hrm
    rw [ho] at hrm
    obtain ⟨bb, c, e1, e2⟩ := hrm
    obtain ⟨b2, c', ms, clock, e3, e4, e5, e6⟩ := hgf.2.obj id _ ho
    rw [e1] at e3; cases e3
    have hkv : ρc x = Bw ka key := (hK.rep _ _ _ _).1 (FM hi hx (hr x))
    have hvd := FM hi hy (hr y)
    have hck := hK.check w false key
    have hst := hK.stays w key
    have hlt := BL e4
    have main : ∀ (ms' : Array MapEntry) (clock' : Nat), HN w (DX F m H fr) ka b (Ah (α := ka.den) es key val) ms'.toList → G9 ms' clock' →
      Av w (DX F m H fr) m H (Ai fr fz) { w with heap := w.heap.setIfInBounds bb (.map ms' clock') } (DX F m H fr) m (H.set id (.map ka b (Ah (α := ka.den) es key val))) (Ai fr fz) := by
     intro ms' clock' he hbo
     refine Av.set hgf.2 (D8 ho) e1 ho trivial rfl rfl rfl (by simp) (fun k hk => by simp [Ne.symm hk]) fun _ => ?_
     refine ⟨bb, c, ms', clock', e1, by simp [hlt], ?_, hbo⟩
     refine he.mono (fun a ha => ?_) (fun _ h => h)
     have : a.block ≠ bb := by rintro rfl; exact hgf.2.off id _ c (D8 ho) e1 ha
     simp [World.cell?, Ne.symm this]
    obtain ⟨s1, s2⟩ := hK.store key val _ hvd e5
    rcases hK.find w _ _ key es ms.toList e5 with ⟨q1, _, q2⟩ | ⟨y', n, me, q1, _, q2, q3, q4, q5⟩
    ·have hg := main (ms.push { key := Bw ka key, val := ρc y, born := clock }) (clock + 1) (by rw [Array.toList_push]; exact s1 clock q1) (e6.push _ _)
     refine ⟨_, _, m, ?_, hgf.trans hg⟩
     simp only [execOp, hop, e2, hkv, Instr.mapUpdate, Sem.run_bind, run_underlying hu, Result.andThen_ok, CW e4, hck, q2, Dp e4, Sem.run_pure]
    ·have hg := main (ms.modify n fun e => { e with key := Bw ka key, val := ρc y }) clock (by rw [Array.toList_modify]; exact s2 n q1) (e6.modify _ fun _ => rfl)
     refine ⟨_, _, m, ?_, hgf.trans hg⟩
     have hgetn : ms[n]? = some me := by simpa using q3
     have hold : (((ms[n]?).map (·.key)).getD (Bw ka key)) = Bw ka key := by rw [hgetn]; exact q5
     simp only [execOp, hop, e2, hkv, Instr.mapUpdate, Sem.run_bind, run_underlying hu, Result.andThen_ok, CW e4, hck, q2, hold, hst, Dp e4, Sem.run_pure]
   ·cases h
  ·cases h
 ·cases h
theorem AFT (T : TypeId) (mm x y : Operand) : Claim P E (.insert T mm x y) := by
 intro R ty ρ H fz slot k r h
 simp only [evalOp] at h
 split at h
 ·rename_i kt vt id hu hm
  split at h
  ·rename_i ka b es ho
   split at h
   ·rename_i key fr0 val fr hkt hx hy
    refine ⟨_, _, h, fun R' k' => by simp only [evalOp, hu, hm, ho, hkt, hx, hy], GP fun w F m ρc o hop hty hi hr => ?_⟩
    have hkt' := hkt
    simp only [decide_eq_true_eq] at hkt'
    have hK := Nw hkt'
    have hgf := Av.freeze hi fr
    have hrm := hr mm
    rw [hm] at hrm
    unfold Rep at hrm
    rw [ho] at hrm
    obtain ⟨bb, c, e1, e2⟩ := hrm
    obtain ⟨b2, c', ms, clock, e3, e4, e5, e6⟩ := hgf.2.obj id _ ho
    rw [e1] at e3; cases e3
    have hkv : ρc x = Bw ka key := (hK.rep _ _ _ _).1 (FM hi hx (hr x))
    have hvd := FM hi hy (hr y)
    have hck := hK.check w false key
    have hst := hK.stays w key
    have hlt := BL e4
    have main : ∀ (ms' : Array MapEntry) (clock' : Nat), HN w (DX F m H fr) ka b (Ah (α := ka.den) es key val) ms'.toList → G9 ms' clock' →
      Av w (DX F m H fr) m H (Ai fr fz) { w with heap := w.heap.setIfInBounds bb (.map ms' clock') } (DX F m H fr) m (H.set id (.map ka b (Ah (α := ka.den) es key val))) (Ai fr fz) := by
     intro ms' clock' he hbo
     refine Av.set hgf.2 (D8 ho) e1 ho trivial rfl rfl rfl (by simp) (fun k hk => by simp [Ne.symm hk]) fun _ => ?_
     refine ⟨bb, c, ms', clock', e1, by simp [hlt], ?_, hbo⟩
     refine he.mono (fun a ha => ?_) (fun _ h => h)
     have : a.block ≠ bb := by rintro rfl; exact hgf.2.off id _ c (D8 ho) e1 ha
     simp [World.cell?, Ne.symm this]
    obtain ⟨s1, s2⟩ := hK.store key val _ hvd e5
    rcases hK.find w _ _ key es ms.toList e5 with ⟨q1, _, q2⟩ | ⟨y', n, me, q1, _, q2, q3, q4, q5⟩
    ·have hg := main (ms.push { key := Bw ka key, val := ρc y, born := clock }) (clock + 1) (by rw [Array.toList_push]; exact s1 clock q1) (e6.push _ _)
     refine ⟨_, _, m, ?_, hgf.trans hg⟩
     simp only [execOp, hop, e2, hkv, Instr.mapUpdate, Sem.run_bind, run_underlying hu, Result.andThen_ok, CW e4, hck, q2, Dp e4, Sem.run_pure]
    ·have hg := main (ms.modify n fun e => { e with key := Bw ka key, val := ρc y }) clock (by rw [Array.toList_modify]; exact s2 n q1) (e6.modify _ fun _ => rfl)
     refine ⟨_, _, m, ?_, hgf.trans hg⟩
     have hgetn : ms[n]? = some me := by simpa using q3
     have hold : (((ms[n]?).map (·.key)).getD (Bw ka key)) = Bw ka key := by rw [hgetn]; exact q5
     simp only [execOp, hop, e2, hkv, Instr.mapUpdate, Sem.run_bind, run_underlying hu, Result.andThen_ok, CW e4, hck, q2, hold, hst, Dp e4, Sem.run_pure]
   ·cases h
  ·cases h
 ·cases h
theorem AD2 {ms : Array MapEntry} {n : Nat} {me : MapEntry} (h : ms[n]? = some me) {f g : MapEntry → MapEntry} (he : f me = g me) : ms.modify n f = ms.modify n g := by
 apply Array.ext_getElem?
 intro i
 rw [Array.getElem?_modify, Array.getElem?_modify]
 split
 ·rename_i hi
  subst hi
  rw [h, Option.map_some, Option.map_some, he]
 ·rfl
theorem Yj (T : TypeId) (mm x : Operand) : Claim P E (.mapEntry T mm x) := by
 intro R ty ρ H fz slot k r h
 simp only [evalOp] at h
 split at h
 ·rename_i kt vt id hu hm
  split at h
  ·rename_i ka b es ho
   split at h
   ·rename_i b' cs' key fr hkt hz hx
    split at h
    ·rename_i hb
     simp only [decide_eq_true_eq] at hb
     subst hb
     refine ⟨_, _, h, fun R' k' => by simp only [evalOp, hu, hm, ho, hkt, hz, hx, decide_true], BB fun w F m ρc o hop hty hi hr => ?_⟩
     have hkt' := hkt
     simp only [decide_eq_true_eq] at hkt'
     have hK := Nw hkt'
     obtain ⟨hty', hcs', i, z, hi0, hz0, hok, hsz, hza⟩ := B7 hz
     subst hcs'
     have hrm := hr mm
     rw [hm] at hrm
     unfold Rep at hrm
     rw [ho] at hrm
     obtain ⟨bb, c, e1, e2⟩ := hrm
     obtain ⟨b2, c', ms, clock, e3, e4, e5, e6⟩ := hi.obj id _ ho
     rw [e1] at e3; cases e3
     have hkv : ρc x = Bw ka key := (hK.rep _ _ _ _).1 (FM hi hx (hr x))
     have hck := hK.check w false key
     have hst := hK.stays w key
     have hlt := BL e4
     have main : ∀ (val : b'.den) (ms' : Array MapEntry) (clock' : Nat), HN w F ka b' (Ah (α := ka.den) es key val) ms'.toList → G9 ms' clock' →
       Av w F m H fz { w with heap := w.heap.setIfInBounds bb (.map ms' clock') } F m (H.set id (.map ka b' (Ah (α := ka.den) es key val))) fz := by
      intro val ms' clock' he hbo
      refine Av.set hi (D8 ho) e1 ho trivial rfl rfl rfl (by simp) (fun k hk => by simp [Ne.symm hk]) fun _ => ?_
      refine ⟨bb, c, ms', clock', e1, by simp [hlt], ?_, hbo⟩
      refine he.mono (fun a ha => ?_) (fun _ h => h)
      have : a.block ≠ bb := by rintro rfl; exact hi.off id _ c (D8 ho) e1 ha
      simp [World.cell?, Ne.symm this]
     have tup : ∀ (d : b'.den) (u : Value) (n : Nat), Bc w F b' d u → Rep w F m H (.tup [.data b' d, .data (.int .i64) (n : Int)]) (.tuple #[u, goInt (n : Int)]) := by
      intro d u n hd
      unfold Rep
      refine ⟨_, rfl, ?_⟩
      unfold AZ
      exact ⟨u, _, rfl, by unfold Rep; exact hd, Y0 (Ar _ _)⟩
     have hlen := YJ e5
     rcases hK.find w _ _ key es ms.toList e5 with ⟨q1, q0, q2⟩ | ⟨y', n, me, q1, q0, q2, q3, q4, q5⟩
     ·obtain ⟨s1, _⟩ := hK.store key b'.zero z (PG hok hza) e5
      have hg := main b'.zero (ms.push { key := Bw ka key, val := z, born := clock }) (clock + 1) (by rw [Array.toList_push]; exact s1 clock q1) (e6.push _ _)
      have hp : Vx (α := ka.den) es key = (clock : Int) := by
       unfold Vx
       rw [q1, e6.1]
       rw [Array.length_toList] at hlen
       rw [Option.getD_none, hlen]
      rw [q0, Option.getD_none, hp]
      refine ⟨_, _, F, m, ?_, hg, hg.1.rep hi (tup b'.zero z clock (PG hok hza))⟩
      simp only [execOp, hop, e2, hkv, Instr.mapEntry, Sem.run_bind, run_underlying hu, Result.andThen_ok, CW e4, hck, q2, Bg hi0 hz0, Dp e4, Sem.run_pure]
     ·obtain ⟨_, s2⟩ := hK.store key y' me.val q4 e5
      have hgetn : ms[n]? = some me := by simpa using q3
      have hmod : (ms.modify n fun e => { e with key := Bw ka key, val := me.val }) = ms.modify n fun e => { e with key := Bw ka key } := AD2 hgetn rfl
      have hg := main y' (ms.modify n fun e => { e with key := Bw ka key, val := me.val }) clock (by rw [Array.toList_modify]; exact s2 n q1) (e6.modify _ fun _ => rfl)
      rw [hmod] at hg
      have hp : Vx (α := ka.den) es key = (n : Int) := by
       unfold Vx
       rw [q1, Option.getD_some]
      rw [q0, Option.getD_some, hp]
      have hold : (((ms[n]?).map (·.key)).getD (Bw ka key)) = Bw ka key := by rw [hgetn]; exact q5
      have hbn : (((ms[n]?).map fun x => (x.born : Int)).getD 0) = (n : Int) := by
       rw [hgetn]
       show (me.born : Int) = n
       rw [e6.2 n me hgetn]
      refine ⟨_, _, F, m, ?_, hg, hg.1.rep hi (tup y' me.val n q4)⟩
      simp only [execOp, hop, e2, hkv, Instr.mapEntry, Sem.run_bind, run_underlying hu, Result.andThen_ok, CW e4, hck, q2, hold, hst, hbn, Dp e4, Sem.run_pure]
    ·cases h
   ·cases h
  ·cases h
 ·cases h
theorem AWX {w : World} {F : Nat → Prop} {a b : Ty} (val : b.den) (v : Value) (hv : Bc w F b val v) : ∀ {es : List (a.den × b.den)} {ms : List MapEntry} (n : Nat), HN w F a b es ms → HN w F a b (es.modify n fun e => (e.1, val)) (ms.modify n fun e => { e with val := v }) := by
 intro es
 induction es with
 | nil => rintro ms n rfl; cases n <;> rfl
 | cons e es ih =>
  rintro ms n ⟨me, ms', rfl, ⟨h1, h2⟩, h3⟩
  cases n with
  | zero => exact ⟨_, ms', rfl, ⟨h1, hv⟩, h3⟩
  | succ n => exact ⟨me, _, rfl, ⟨h1, h2⟩, ih n h3⟩
theorem AS3 {ms : Array MapEntry} {clock : Nat} (h : G9 ms clock) {i : Nat} (hi : i < ms.size) : ms.findIdx? (fun e => (e.born : Int) == (i : Int)) = some i := by
 rw [Array.findIdx?_eq_some_iff_getElem]
 refine ⟨hi, ?_, fun j hj => ?_⟩
 ·have := h.2 i ms[i] (by simp [hi])
  simp [this]
 ·have := h.2 j ms[j] (by simp)
  simp [this]
  omega
theorem RI (T : TypeId) (mm s y : Operand) : Claim P E (.entryStore T mm s y) := by
 intro R ty ρ H fz slot k r h
 simp only [evalOp] at h
 split at h
 ·rename_i id i0 hm hs
  split at h
  ·rename_i ka b es ho
   split at h
   ·rename_i val fr hy
    split at h
    rotate_left
    ·cases h
    rename_i hc
    refine ⟨_, _, h, fun R' k' => by simp only [evalOp, hm, hs, ho, hy, hc], GP fun w F m ρc o hop hty hi hr => ?_⟩
    have hgf := Av.freeze hi fr
    have hrm := hr mm
    rw [hm] at hrm
    unfold Rep at hrm
    rw [ho] at hrm
    obtain ⟨bb, c, e1, e2⟩ := hrm
    obtain ⟨b2, c', ms, clock, e3, e4, e5, e6⟩ := hgf.2.obj id _ ho
    rw [e1] at e3; cases e3
    have hrs := hr s
    rw [hs] at hrs
    unfold Rep at hrs
    have hsv := AUX hrs
    have hvd := FM hi hy (hr y)
    have hlt := BL e4
    have hlen := YJ e5
    rw [Array.length_toList] at hlen
    rw [Bool.and_eq_true, Aq, Am, decide_eq_true_iff, decide_eq_true_iff] at hc
    obtain ⟨n, rfl⟩ := Int.eq_ofNat_of_zero_le hc.1
    have hn : n < ms.size := by
     have := hc.2
     unfold AM at this
     omega
    have hfi := AS3 e6 hn
    have hg : Av w (DX F m H fr) m H (Ai fr fz) { w with heap := w.heap.setIfInBounds bb (.map (ms.modify n fun e => { e with val := ρc y }) clock) } (DX F m H fr) m (H.set id (.map ka b (AVT es (n : Int) val))) (Ai fr fz) := by
     refine Av.set hgf.2 (D8 ho) e1 ho trivial rfl rfl rfl (by simp) (fun k hk => by simp [Ne.symm hk]) fun _ => ?_
     refine ⟨bb, c, ms.modify n fun e => { e with val := ρc y }, clock, e1, by simp [hlt], ?_, e6.modify n fun _ => rfl⟩
     have he : HN w (DX F m H fr) ka b (es.modify n fun e => (e.1, val)) (ms.modify n fun e => { e with val := ρc y }).toList := by
      rw [Array.toList_modify]; exact AWX val (ρc y) hvd n e5
     unfold AVT
     rw [Int.toNat_natCast]
     refine he.mono (fun a ha => ?_) (fun _ h => h)
     have : a.block ≠ bb := by rintro rfl; exact hgf.2.off id _ c (D8 ho) e1 ha
     simp [World.cell?, Ne.symm this]
    refine ⟨_, _, m, ?_, hgf.trans hg⟩
    simp only [execOp, hop, e2, hsv, Instr.entryStore, Sem.run_bind, Result.andThen_ok, CW e4, asInt, asIntOf, Sem.run_pure, hfi, Dp e4]
   ·cases h
  ·cases h
 ·cases h
theorem IP (hE : ∀ g, AR P g (E.spec g)) (o : Op) : Claim P E o := by
 cases o with
 | move x => exact AOR x
 | assign x => exact AFU x
 | pick c a b => exact AOQ c a b
 | alloc T => exact AJ6 T
 | box T x => exact ATJ T x
 | build T parts => exact AJ4 T parts
 | buildSlice T len parts => exact RJ T len parts
 | load T x => exact AOS T x
 | store T x y => exact AJ0 T x y
 | nilCheck x => exact Yi x
 | binOp op T x y T' => exact AJ5 op T x y T'
 | unOp op T x => exact AOP op T x
 | convert S T x => exact AAS S T x
 | makeFunc fn first cs => exact Yk fn first cs
 | makeMap T r => exact AAQ T r
 | makeSlice T x y => exact TX T x y
 | slice T x lo up mx =>
  cases mx with
  | none => exact RH T x lo up
  | some mx => exact TV T x lo up mx
 | fieldAddr T x f => exact TZ T x f
 | field T x f => exact AJ2 T x f
 | indexAddr T x y => exact TY T x y
 | index T x y => exact AJ1 T x y
 | lookup T m x ok => exact AFS T m x ok
 | mapUpdate T m x y => exact TW T m x y
 | insert T m x y => exact AFT T m x y
 | mapEntry T m x => exact Yj T m x
 | entryStore T m s y => exact RI T m s y
 | extract x i => exact AAR x i
 | call c =>
  obtain ⟨callee, args, ts⟩ := c
  cases callee with
  | value f => exact AOT hE f args ts
  | invoke r n => intro R ty ρ H fz slot k r h; simp [evalOp] at h
  | builtin b =>
   cases b with
   | len => exact ATH args ts
   | append => exact AFV args ts
   | cap => exact ATI args ts
   | min => exact ATF args ts
   | max => exact ATG args ts
   | clear => exact AJ3 args ts
   | _ => intro R ty ρ H fz slot k r h; simp [evalOp] at h
 | _ => intro R ty ρ H fz slot k r h; simp [evalOp] at h
end
end Go.Pev
end
section
namespace Go.Pev
open Go.RowKit
structure SI (w : World) (F : Nat → Prop) (m : Mp) (st : St) (a : Act) : Prop where
 tmps : ∀ t, Rep w F m st.heap (st.tmps.getD t .junk) (a.tmps.getD t undef)
 size : st.tmps.length = a.tmps.size
 heap : HI w F m st.heap st.frz
 defers : a.defers = []
def AZl {R : Type} (r : R) (k : St → Option R) (w : World) (F : Nat → Prop) (m : Mp) (H : List Ob) (fz : List Bool) (a' : Act) (w' : World) : Prop :=
 ∃ st' F' m', k st' = some r ∧ SI w' F' m' st' a' ∧ Ext w F m H fz w' F' m' st'.heap st'.frz
section
variable {P : Program} {E : Env} {R : Type} {r : R}
theorem SI.put {w : World} {F : Nat → Prop} {m : Mp} {st : St} {a : Act} (h : SI w F m st a) {v : AV} {u : Value} (hr : Rep w F m st.heap v u) (d : Option Tmp) : SI w F m (st.put d v) (a.put d u) := by
 cases d with
 | none => exact h
 | some d =>
  refine ⟨fun t => ?_, by simp [St.put, Act.put, h.size], h.heap, h.defers⟩
  simp only [St.put, Act.put]
  by_cases htd : t = d
  ·subst htd
   by_cases hlt : t < st.tmps.length
   ·have hlt' : t < a.tmps.size := h.size ▸ hlt
    simp [hlt, hlt', hr]
   ·have hlt' : ¬ t < a.tmps.size := h.size ▸ hlt
    have := h.tmps t
    rw [List.getD_eq_getElem?_getD, Array.getD_eq_getD_getElem?] at this ⊢
    rw [List.set_eq_of_length_le (by omega)]
    simpa [Array.setIfInBounds, hlt'] using this
  ·have := h.tmps t
   rw [List.getD_eq_getElem?_getD, Array.getD_eq_getD_getElem?] at this ⊢
   rw [List.getElem?_set_ne (Ne.symm htd), Array.getElem?_setIfInBounds_ne (Ne.symm htd)]
   exact this
theorem SI.go {w w' : World} {F F' : Nat → Prop} {m m' : Mp} {st : St} {a : Act} (h : SI w F m st a) {e : Eff} (hg : Av w F m st.heap st.frz w' F' m' (De e st.heap) (JH e st.frz)) : SI w' F' m' (st.app e) a :=
 ⟨fun t => hg.1.rep h.heap (h.tmps t), h.size, hg.2, h.defers⟩
theorem SI.lit {w : World} {F : Nat → Prop} {m : Mp} {st : St} {a : Act} (h : SI w F m st a) {d : Nat} {b : Bool} (hd : st.tmps[d]? = some (.data .bool b)) : SI w F m { st with tmps := st.tmps.set d (.data .bool b) } a := by
 have : st.tmps.set d (.data .bool b) = st.tmps := by
  apply List.ext_getElem?
  intro i
  by_cases hid : i = d
  ·subst hid
   rw [hd, List.getElem?_set_self (by
    rcases Nat.lt_or_ge i st.tmps.length with h' | h'
    ·exact h'
    ·rw [List.getElem?_eq_none h'] at hd; cases hd)]
  ·rw [List.getElem?_set_ne (Ne.symm hid)]
 rw [this]; exact h
theorem MC {w : World} {F : Nat → Prop} {m : Mp} {st : St} {a : Act} (h : SI w F m st a) {ops : Array Oper} {j d : Nat} (hj : (ops.toList[j]?).bind (·.dst) = some d) {b : Bool} (hd : st.tmps[d]? = some (.data .bool b)) :
  yielded ops a.tmps j = some b := by
 have hlt : d < st.tmps.length := by
  rcases Nat.lt_or_ge d st.tmps.length with h' | h'
  ·exact h'
  ·rw [List.getElem?_eq_none h'] at hd; cases hd
 have hlt' : d < a.tmps.size := h.size ▸ hlt
 have hr := h.tmps d
 rw [List.getD_eq_getElem?_getD, hd, Array.getD_eq_getD_getElem?, Array.getElem?_eq_getElem hlt'] at hr
 have hb := CN hr
 simp only [Option.getD_some] at hb
 have hj' : (ops[j]?).bind (·.dst) = some d := by simpa using hj
 unfold yielded
 rw [hj']
 simp [Array.getElem?_eq_getElem hlt', hb]
theorem AGg {w : World} {F : Nat → Prop} {m : Mp} {H : List Ob} : Rep w F m H BG undef := by
 unfold BG Rep
 exact ⟨#[], rfl, by unfold AZ; rfl⟩
theorem NL {w : World} {F : Nat → Prop} {m : Mp} {st : St} {a : Act} (h : SI w F m st a) {ops : Array Oper} {j d : Nat} (hj : (ops.toList[j]?).bind (·.dst) = some d) (hd : st.tmps[d]? = some (.tup [])) :
  yielded ops a.tmps j = none := by
 have hlt : d < st.tmps.length := by
  rcases Nat.lt_or_ge d st.tmps.length with h' | h'
  ·exact h'
  ·rw [List.getElem?_eq_none h'] at hd; cases hd
 have hlt' : d < a.tmps.size := h.size ▸ hlt
 have hr := h.tmps d
 rw [List.getD_eq_getElem?_getD, hd, Array.getD_eq_getD_getElem?, Array.getElem?_eq_getElem hlt'] at hr
 simp only [Option.getD_some] at hr
 unfold Rep at hr
 obtain ⟨us, e, _⟩ := hr
 have hj' : (ops[j]?).bind (·.dst) = some d := by simpa using hj
 unfold yielded
 rw [hj']
 simp [Array.getElem?_eq_getElem hlt', e]
theorem ANj {w : World} {F : Nat → Prop} {m : Mp} {st : St} {a : Act} (h : SI w F m st a) {ops : Array Oper} {o : Oper} {yes no : St → Option R} (hg : guarded R ops.toList o.guard st yes no = some r) :
  ∃ st', SI w F m st' a ∧ st'.heap = st.heap ∧ st'.frz = st.frz ∧ ((Region.wanted o (yielded ops a.tmps) = true ∧ yes st' = some r) ∨ (Region.wanted o (yielded ops a.tmps) = false ∧ no st' = some r)) := by
 unfold guarded at hg
 split at hg
 ·rename_i hgd
  exact ⟨st, h, rfl, rfl, .inl ⟨by simp [Region.wanted, hgd], hg⟩⟩
 ·rename_i j want hgd
  split at hg
  ·cases hg
  ·rename_i d hj
   split at hg
   ·rename_i b hd
    have hy := MC h hj hd
    split at hg
    ·split at hg
     ·exact ⟨_, h.lit hd, rfl, rfl, .inl ⟨by simp [Region.wanted, hgd, hy], hg⟩⟩
     ·exact ⟨_, h.lit hd, rfl, rfl, .inr ⟨by simp [Region.wanted, hgd, hy], hg⟩⟩
    ·split at hg
     ·exact ⟨_, h.lit hd, rfl, rfl, .inr ⟨by simp [Region.wanted, hgd, hy], hg⟩⟩
     ·exact ⟨_, h.lit hd, rfl, rfl, .inl ⟨by simp [Region.wanted, hgd, hy], hg⟩⟩
   ·rename_i hd
    exact ⟨st, h, rfl, rfl, .inr ⟨by simp [Region.wanted, hgd, NL h hj hd], hg⟩⟩
   ·cases hg
theorem ARU (hE : ∀ g, AR P g (E.spec g)) {ops : Array Oper} {Q : Exit → Act → World → Prop} {k : St → Option R} : ∀ (rest pre : List Oper) (slot : Nat) (st : St) (w : World) (F : Nat → Prop) (m : Mp) (a : Act), ops.toList = pre ++ rest →
  Hu P E R ops.toList rest slot st k = some r → SI w F m st a → (∀ a' w', AZl r k w F m st.heap st.frz a' w' → Q .normal a' w') → wpOps P ops Q (List.range' pre.length rest.length) a w := by
 intro rest
 induction rest with
 | nil =>
  intro pre slot st w F m a _ h hs hq
  exact hq a w ⟨st, F, m, h, hs, Ext.refl ..⟩
 | cons o rest ih =>
  intro pre slot st w F m a hops h hs hq
  simp only [Hu] at h
  have hget : ops[pre.length]? = some o := by
   rw [← Array.getElem?_toList, hops]; simp
  have hops' : ops.toList = (pre ++ [o]) ++ rest := by rw [hops]; simp
  have hlen : (pre ++ [o]).length = pre.length + 1 := by simp
  rw [List.length_cons, List.range'_succ]
  simp only [wpOps, hget]
  obtain ⟨st', hs', e1, e2, hh⟩ := ANj hs h
  rcases hh with ⟨hw, hy⟩ | ⟨hw, hn⟩
  ·rw [if_pos hw]
   left
   obtain ⟨v, e, h1, _, h3⟩ := IP hE o.op R _ _ _ _ _ _ _ hy
   refine h3 w F m a o _ Q rfl rfl hs'.heap (fun x => X2 hs'.tmps x) fun u w' F' m' hg hr => ?_
   have hs2 := (hs'.go hg).put hr o.dst
   have := ih (pre ++ [o]) _ _ w' F' m' (a.put o.dst u) hops' h1 hs2 fun a' w'' ⟨st2, F2, m2, q1, q2, q3⟩ => hq a' w'' ⟨st2, F2, m2, q1, q2, by
    have hx := hg.1
    rw [e1, e2] at hx
    refine hx.trans ?_
    have : ((st'.app e).put o.dst v).heap = De e st.heap ∧ ((st'.app e).put o.dst v).frz = JH e st.frz := by
     cases o.dst <;> simp [St.put, St.app, e1, e2]
    rw [this.1, this.2] at q3
    exact q3⟩
   rw [hlen] at this
   exact this
  ·rw [if_neg (by simp [hw])]
   have hs2 : SI w F m (st'.put o.dst BG) (a.put o.dst undef) := hs'.put AGg o.dst
   have := ih (pre ++ [o]) _ _ w F m (a.put o.dst undef) hops' hn hs2 fun a' w'' ⟨st2, F2, m2, q1, q2, q3⟩ => hq a' w'' ⟨st2, F2, m2, q1, q2, by
    have : (st'.put o.dst BG).heap = st.heap ∧ (st'.put o.dst BG).frz = st.frz := by
     cases o.dst <;> simp [St.put, e1, e2]
    rw [this.1, this.2] at q3
    exact q3⟩
   rw [hlen] at this
   exact this
theorem HI.pad {w : World} {F : Nat → Prop} {m : Mp} {H : List Ob} {fz : List Bool} (hi : HI w F m H fz) (n : Nat) : Av w F m H fz w F m (H ++ List.replicate n .free) (fz ++ List.replicate n false) := by
 have hget : ∀ i o, H[i]? = some o → (H ++ List.replicate n Ob.free)[i]? = some o := fun i o h => by
  rw [List.getElem?_append_left (As h)]; exact h
 have hget' : ∀ i o, (H ++ List.replicate n Ob.free)[i]? = some o → H[i]? = some o ∨ o = Ob.free := fun i o h => by
  rcases Nat.lt_or_ge i H.length with hl | hl
  ·rw [List.getElem?_append_left hl] at h; exact .inl h
  ·rw [List.getElem?_append_right hl] at h
   exact .inr (List.eq_of_mem_replicate (List.mem_of_getElem? h))
 have hfz : ∀ i, (fz ++ List.replicate n false).getD i false = fz.getD i false := fun i => by
  rw [List.getD_eq_getElem?_getD, List.getD_eq_getElem?_getD]
  rcases Nat.lt_or_ge i fz.length with hl | hl
  ·rw [List.getElem?_append_left hl]
  ·rw [List.getElem?_append_right hl, List.getElem?_eq_none hl]
   cases hx : (List.replicate n false)[i - fz.length]? with
   | none => rfl
   | some b => rw [List.eq_of_mem_replicate (List.mem_of_getElem? hx)]; rfl
 have hown : ∀ i, owned (H ++ List.replicate n .free) (fz ++ List.replicate n false) i → owned H fz i := fun i ho => by
  obtain ⟨o, h1, h2, h3⟩ := DA ho
  unfold owned at *
  rcases hget' i o h1 with h4 | h4
  ·rw [h4]; rw [h1] at ho
   cases o with
   | free => exact absurd rfl h2
   | dead => exact absurd rfl h3
   | box cs => trivial
   | map a b es => trivial
   | prs T t is => trivial
   | arr T t xs => simp only at ho ⊢; rw [hfz] at ho; exact ho
  ·exact absurd h4 h2
 have hcomp : Co H (H ++ List.replicate n .free) m m := by
  intro i o ho hf
  rcases Co.refl H m i o ho hf with h | ⟨hd, o', h1, h2, _⟩
  ·exact .inl (hget i _ h)
  ·exact .inr ⟨hd, o', hget i _ h1, h2, rfl⟩
 refine ⟨⟨rfl, rfl, rfl, Nat.le_refl _, fun _ _ _ => rfl, fun _ h => h, fun _ h => .inl h, fun i b c h1 h2 => .inl ⟨i, c, hown i h1, h2⟩, hcomp⟩, ⟨?_, ?_, ?_, ?_, hi.lt, by simp [hi.len]⟩⟩
 ·intro id o ho
  rcases hget' id o ho with h | rfl
  ·exact ObI.mono (fun _ _ => rfl) (fun _ h => h) hcomp (fun _ _ _ _ _ _ => rfl) (hi.obj id o h)
  ·trivial
 ·exact fun i k b c b' c' h1 h2 => hi.sep i k b c b' c' (hown i h1) (hown k h2)
 ·exact fun i b c h1 => hi.off i b c (hown i h1)
 ·intro i T t xs b c hio hf hmi
  rw [hfz] at hf
  rcases hget' i _ hio with h | h
  ·exact hi.froz i T t xs b c h hf hmi
  ·cases h
theorem SI.pad {w : World} {F : Nat → Prop} {m : Mp} {st : St} {a : Act} (h : SI w F m st a) (n : Nat) : SI w F m (st.pad n) a ∧ Ext w F m st.heap st.frz w F m (st.pad n).heap (st.pad n).frz := by
 have hg := h.heap.pad n
 exact ⟨⟨fun t => hg.1.rep h.heap (h.tmps t), h.size, hg.2, h.defers⟩, hg.1⟩
theorem ADT (hE : ∀ g, AR P g (E.spec g)) {id : Nat} {ops : Array Oper} {Q : Exit → Act → World → Prop} {k : St → Option R} {st : St} {w : World} {F : Nat → Prop} {m : Mp} {a : Act} (h : GN P E R ops.toList st k = some r) (hs : SI w F m st a)
  (hq : ∀ a' w', AZl r k w F m st.heap st.frz a' w' → Q .normal a' w') : (Code.region id ops false).wp P Q a w := by
 obtain ⟨h1, h2⟩ := hs.pad (EP ops.toList)
 have := ARU hE ops.toList [] _ _ w F m a (by simp) h h1 fun a' w' ⟨st', F', m', q1, q2, q3⟩ => hq a' w' ⟨st', F', m', q1, q2, h2.trans q3⟩
 rw [List.length_nil, Array.length_toList, ← List.range_eq_range'] at this
 exact wp_region this
end
end Go.Pev
end
section
namespace Go.Pev
open Go.RowKit
theorem GC {H H' : List Ob} (t : Ty) (v : AV) (h : ∀ id ∈ Ax v, H[id]? = H'[id]?) : Dz H t v = Dz H' t v := by
 cases v <;> simp only [Dz]
 ·rename_i id; rw [h id (by simp [Ax])]
 ·rename_i id off n; rw [h id (by simp [Ax])]
theorem ANg {α : Type} {one one' : List AV → Option (α × List Nat × List AV)} {H H' : List Ob}
  (h1 : ∀ cs, (∀ id ∈ BD cs, H[id]? = H'[id]?) → one cs = one' cs) (h2 : ∀ cs x f r, one cs = some (x, f, r) → ∃ c0, cs = c0 ++ r) :
  ∀ (n : Nat) (cs : List AV), (∀ id ∈ BD cs, H[id]? = H'[id]?) → N2 one n cs = N2 one' n cs := by
 intro n
 induction n with
 | zero => intro cs _; rfl
 | succ n ih =>
  intro cs h
  simp only [N2]
  rw [← h1 cs h]
  cases ho : one cs with
  | none => rfl
  | some p =>
   obtain ⟨x, f, r⟩ := p
   simp only
   obtain ⟨c0, hc⟩ := h2 _ _ _ _ ho
   rw [ih r fun id hid => h id (by
    subst hc
    clear ho
    induction c0 with
    | nil => exact hid
    | cons c c0 ih' => simp only [List.cons_append, BD, List.mem_append]; exact .inr (ih' fun id hid => h id (by simp only [List.cons_append, BD, List.mem_append]; exact .inr hid)))]
theorem ASc {α : Type} {one : List AV → Option (α × List Nat × List AV)} (h2 : ∀ cs x f r, one cs = some (x, f, r) → ∃ c0, cs = c0 ++ r) :
  ∀ (n : Nat) (cs : List AV) (xs : List α) (f : List Nat) (r : List AV), N2 one n cs = some (xs, f, r) → ∃ c0, cs = c0 ++ r := by
 intro n
 induction n with
 | zero => intro cs xs f r h; simp only [N2, Option.some.injEq, Prod.mk.injEq] at h; exact ⟨[], h.2.2⟩
 | succ n ih =>
  intro cs xs f r h
  simp only [N2] at h
  split at h
  ·cases h
  ·rename_i x f1 cs1 ho
   split at h
   ·cases h
   ·rename_i ys g cs2 hi
    simp only [Option.some.injEq, Prod.mk.injEq] at h
    obtain ⟨_, _, rfl⟩ := h
    obtain ⟨c0, rfl⟩ := h2 _ _ _ _ ho
    obtain ⟨c1, rfl⟩ := ih _ _ _ _ hi
    exact ⟨c0 ++ c1, by simp⟩
theorem N3 {H : List Ob} : ∀ (t : Ty) (cs : List AV) (x : t.den) (f : List Nat) (r : List AV), Au H t cs = some (x, f, r) → ∃ c0, cs = c0 ++ r := by
 intro t
 induction t with
 | unit => intro cs x f r h; simp only [Au, Option.some.injEq, Prod.mk.injEq] at h; exact ⟨[], h.2.2⟩
 | bool =>
  intro cs x f r h
  cases cs with
  | nil => simp [Au] at h
  | cons c cs =>
   unfold Au at h
   split at h
   ·cases h
   ·simp only [Option.some.injEq, Prod.mk.injEq] at h; exact ⟨[c], by simp [h.2.2]⟩
 | int k =>
  intro cs x f r h
  cases cs with
  | nil => simp [Au] at h
  | cons c cs =>
   unfold Au at h
   split at h
   ·cases h
   ·simp only [Option.some.injEq, Prod.mk.injEq] at h; exact ⟨[c], by simp [h.2.2]⟩
 | slice e _ =>
  intro cs x f r h
  cases cs with
  | nil => simp [Au] at h
  | cons c cs =>
   unfold Au at h
   split at h
   ·cases h
   ·simp only [Option.some.injEq, Prod.mk.injEq] at h; exact ⟨[c], by simp [h.2.2]⟩
 | prod a b iha ihb =>
  intro cs x f r h
  simp only [Au] at h
  split at h
  ·cases h
  ·rename_i y f1 cs1 hy
   split at h
   ·cases h
   ·rename_i z g cs2 hz
    simp only [Option.some.injEq, Prod.mk.injEq] at h
    obtain ⟨_, _, rfl⟩ := h
    obtain ⟨c0, rfl⟩ := iha _ _ _ _ hy
    obtain ⟨c1, rfl⟩ := ihb _ _ _ _ hz
    exact ⟨c0 ++ c1, by simp⟩
 | arr n e ih =>
  intro cs x f r h
  simp only [Au] at h
  exact ASc ih n cs _ _ _ h
theorem DJ (a b : List AV) : BD (a ++ b) = BD a ++ BD b := by
 induction a with
 | nil => rfl
 | cons x a ih => simp [BD, ih]
theorem Lz {H H' : List Ob} : ∀ (t : Ty) (cs : List AV), (∀ id ∈ BD cs, H[id]? = H'[id]?) → Au H t cs = Au H' t cs := by
 intro t
 induction t with
 | unit => intro cs _; cases cs <;> rfl
 | bool =>
  intro cs h
  cases cs with
  | nil => rfl
  | cons c cs => unfold Au; rw [GC .bool c fun id hid => h id (by simp [BD, hid])]
 | int k =>
  intro cs h
  cases cs with
  | nil => rfl
  | cons c cs => unfold Au; rw [GC (.int k) c fun id hid => h id (by simp [BD, hid])]
 | slice e _ =>
  intro cs h
  cases cs with
  | nil => rfl
  | cons c cs => unfold Au; rw [GC (.slice e) c fun id hid => h id (by simp [BD, hid])]
 | prod a b iha ihb =>
  intro cs h
  simp only [Au]
  rw [← iha cs h]
  cases hx : Au H a cs with
  | none => rfl
  | some p =>
   obtain ⟨x, f, r⟩ := p
   simp only
   obtain ⟨c0, rfl⟩ := N3 a _ _ _ _ hx
   rw [ihb r fun id hid => h id (by rw [DJ]; simp [hid])]
 | arr n e ih =>
  intro cs h
  simp only [Au]
  exact ANg ih (N3 e) n cs h
theorem Bf {H H' : List Ob} (t : Ty) (v : AV) (h : ∀ id ∈ Ax v, H[id]? = H'[id]?) : E3 H t v = E3 H' t v := by
 unfold E3
 split
 ·cases v <;> simp only [asAgg]
  rename_i cs
  rw [Lz t cs fun id hid => h id (by simpa [Ax] using hid)]
 ·exact GC t v h
structure PF (T : List Nat) (slot n : Nat) (W : List Nat) (H H' : List Ob) (fz fz' : List Bool) : Prop where
 heap : ∀ id ∈ T, H[id]? = H'[id]?
 slotH : ∀ s, slot ≤ s → s < slot + n → H[s]? = H'[s]?
 slotF : ∀ s, slot ≤ s → s < slot + n → fz.getD s false = fz'.getD s false
 len : fz.length = fz'.length
 wrF : ∀ id ∈ W, fz.getD id false = fz'.getD id false
theorem F8 {T : List Nat} {slot n : Nat} {W : List Nat} {H H' : List Ob} {fz fz' : List Bool} (h : PF T slot n W H H' fz fz') {s : Nat} (h1 : slot ≤ s) (h2 : s < slot + n) (fr : List Nat) :
  A3 H (Ai fr fz) s = A3 H' (Ai fr fz') s := by
 unfold A3
 rw [h.slotH s h1 h2, A0, A0, h.slotF s h1 h2, h.len]
theorem CJ {T : List Nat} {slot n : Nat} {W : List Nat} {H H' : List Ob} {fz fz' : List Bool} (h : PF T slot n W H H' fz fz') {s : Nat} (h1 : slot ≤ s) (h2 : s < slot + n) :
  A3 H fz s = A3 H' fz' s := F8 h h1 h2 []
theorem Cz {T W : List Nat} {slot n : Nat} {H H' : List Ob} {fz fz' : List Bool} (h : PF T slot n W H H' fz fz') {id : Nat} (hid : id ∈ W) (fr : List Nat) :
  Aw (Ai fr fz) id = Aw (Ai fr fz') id := by
 unfold Aw
 rw [A0, A0, h.wrF id hid, h.len]
def RV (s : Spec) : Prop :=
 ∀ R args H H' fz fz' slot k, PF (BD args) slot 4 [] H H' fz fz' → s R args H fz slot k = s R args H' fz' slot k
def AF6 (S : List Nat) (H : List Ob) : Prop := ∀ id ∈ S, ∀ cs, H[id]? = some (.box cs) → ∀ j ∈ BD cs, j ∈ S
def T6 (s : Spec) : Prop :=
 ∀ R args H H' fz fz' slot k (S : List Nat), (∀ id ∈ BD args, id ∈ S) → AF6 S H → PF S slot 4 S H H' fz fz' → s R args H fz slot k = s R args H' fz' slot k
def Hm (E : Env) : Prop := (∀ g, E.loc g = true → RV (E.spec g)) ∧ ∀ g, E.loc2 g = true → T6 (E.spec g)
section
variable {P : Program} {E : Env}
theorem MZ {ρ ρ' : Operand → AV} {l : List Operand} (h : ∀ x ∈ l, ρ x = ρ' x) : l.map ρ = l.map ρ' := List.map_congr_left h
theorem R5 {ρ ρ' : Operand → AV} {l : List (Nat × Operand)} (h : ∀ x ∈ l.map (·.2), ρ x = ρ' x) : (l.map fun p => (p.1, ρ p.2)) = l.map fun p => (p.1, ρ' p.2) :=
 List.map_congr_left fun p hp => by rw [h p.2 (List.mem_map_of_mem hp)]
theorem Ny {ρ ρ' : Operand → AV} {o : Option Operand} (h : ∀ x ∈ o.toArray, ρ x = ρ' x) : Hz ρ o = Hz ρ' o := by
 cases o with
 | none => rfl
 | some x => simp only [Hz]; rw [h x (by simp)]
theorem Bi {R : Type} {ρ ρ' : Operand → AV} (o : Op) (ty : TypeId) (H : List Ob) (fz : List Bool) (slot : Nat) (k : AV → Eff → Option R) (h : ∀ x ∈ o.operands, ρ x = ρ' x) :
  evalOp P E R o ty ρ H fz slot k = evalOp P E R o ty ρ' H fz slot k := by
 cases o with
 | call c =>
  obtain ⟨callee, args, ts⟩ := c
  cases callee with
  | value f =>
   have hf := h f (by simp [Op.operands, Call.operands])
   have ha : args.toList.map ρ = args.toList.map ρ' := MZ fun x hx => h x (by simp [Op.operands, Call.operands]; right; simpa using hx)
   simp only [evalOp, hf, ha]
  | invoke r n => rfl
  | builtin b =>
   have ha : ∀ x ∈ args.toList, ρ x = ρ' x := fun x hx => h x (by simp [Op.operands, Call.operands]; simpa using hx)
   cases b with
   | len =>
    simp only [evalOp]
    cases hl : args.toList with
    | nil => rfl
    | cons x r => cases r with
     | nil =>
      rw [hl] at ha
      cases ts.toList with
      | nil => rfl
      | cons T r => cases r with
       | nil => simp only [ha x (by simp)]
       | cons T' r => rfl
     | cons y r => rfl
   | append =>
    simp only [evalOp]
    cases hl : args.toList with
    | nil => rfl
    | cons x r => cases r with
     | nil => rfl
     | cons y r => cases r with
      | nil =>
       rw [hl] at ha
       cases ts.toList with
       | nil => rfl
       | cons T r => cases r with
        | nil => rfl
        | cons T' r => cases r with
         | nil => simp only [ha x (by simp), ha y (by simp)]
         | cons T'' r => rfl
      | cons z r => rfl
   | cap =>
    simp only [evalOp]
    cases hl : args.toList with
    | nil => rfl
    | cons x r => cases r with
     | nil =>
      rw [hl] at ha
      cases ts.toList with
      | nil => rfl
      | cons T r => cases r with
       | nil => simp only [ha x (by simp)]
       | cons T' r => rfl
     | cons y r => rfl
   | clear =>
    simp only [evalOp]
    cases hl : args.toList with
    | nil => rfl
    | cons x r => cases r with
     | nil =>
      rw [hl] at ha
      cases ts.toList with
      | nil => rfl
      | cons T r => cases r with
       | nil => simp only [ha x (by simp)]
       | cons T' r => rfl
     | cons y r => rfl
   | min =>
    simp only [evalOp]
    cases hl : args.toList with
    | nil => rfl
    | cons x r => cases r with
     | nil => rfl
     | cons y r => cases r with
      | nil =>
       rw [hl] at ha
       simp only [ha x (by simp), ha y (by simp)]
      | cons z r => rfl
   | max =>
    simp only [evalOp]
    cases hl : args.toList with
    | nil => rfl
    | cons x r => cases r with
     | nil => rfl
     | cons y r => cases r with
      | nil =>
       rw [hl] at ha
       simp only [ha x (by simp), ha y (by simp)]
      | cons z r => rfl
   | _ => rfl
 | build T parts =>
  have := R5 (ρ := ρ) (ρ' := ρ') (l := parts.toList) fun x hx => h x (by simpa [Op.operands] using hx)
  simp only [evalOp, this]
 | buildSlice T n parts =>
  have := R5 (ρ := ρ) (ρ' := ρ') (l := parts.toList) fun x hx => h x (by simpa [Op.operands] using hx)
  simp only [evalOp, this]
 | makeFunc fn first cs =>
  cases fn with
  | func f =>
   have := MZ (ρ := ρ) (ρ' := ρ') (l := cs.toList) fun x hx => h x (by simp [Op.operands]; right; simpa using hx)
   have hfst := MZ (ρ := ρ) (ρ' := ρ') (l := first.toList) fun x hx => h x (by simp [Op.operands]; left; simpa using hx)
   simp only [evalOp, this]
   cases hfl : first.toList with
   | nil => rfl
   | cons y ys =>
    rw [hfl] at hfst
    simp only [hfst]
  | _ => rfl
 | slice T x lo up mx =>
  have hx := h x (by simp [Op.operands])
  have hlo := Ny (ρ := ρ) (ρ' := ρ') (o := lo) fun y hy => h y (by simp [Op.operands]; simp at hy; simp [hy])
  have hup := Ny (ρ := ρ) (ρ' := ρ') (o := up) fun y hy => h y (by simp [Op.operands]; simp at hy; simp [hy])
  cases mx with
  | none => simp only [evalOp, hx, hlo, hup]
  | some m =>
   have hm := h m (by simp [Op.operands])
   simp only [evalOp, hx, hlo, hup, hm]
 | makeMap T o => cases o <;> rfl
 | pick a b c => simp only [evalOp, h a (by simp [Op.operands]), h b (by simp [Op.operands]), h c (by simp [Op.operands])]
 | mapUpdate a b c d => simp only [evalOp, h b (by simp [Op.operands]), h c (by simp [Op.operands]), h d (by simp [Op.operands])]
 | mapEntry a b c => simp only [evalOp, h b (by simp [Op.operands]), h c (by simp [Op.operands])]
 | entryStore a b c d => simp only [evalOp, h b (by simp [Op.operands]), h c (by simp [Op.operands]), h d (by simp [Op.operands])]
 | insert a b c d => simp only [evalOp, h b (by simp [Op.operands]), h c (by simp [Op.operands]), h d (by simp [Op.operands])]
 | move x | assign x | box _ x | load _ x | nilCheck x | unOp _ _ x | convert _ _ x | fieldAddr _ x _ | field _ x _ | extract x _ =>
  simp only [evalOp, h x (by simp [Op.operands])]
 | store _ x y | binOp _ _ x y _ | makeSlice _ x y | indexAddr _ x y | index _ x y | lookup _ x y _ =>
  simp only [evalOp, h x (by simp [Op.operands]), h y (by simp [Op.operands])]
 | _ => rfl
theorem Gd {ρ : Operand → AV} {o : Op} {x : Operand} (hx : x ∈ o.operands) {id : Nat} (hid : id ∈ Ax (ρ x)) : id ∈ Fh ρ o := by
 unfold Fh
 exact List.mem_flatMap.2 ⟨x, by simpa using hx, hid⟩
theorem TP {H H' : List Ob} (t : Ty) : ∀ (ps : List (Nat × AV)) (xs : List t.den) (fr : List Nat), (∀ p ∈ ps, ∀ id ∈ Ax p.2, H[id]? = H'[id]?) → Cs H t ps xs fr = Cs H' t ps xs fr := by
 intro ps
 induction ps with
 | nil => intro xs fr _; rfl
 | cons p ps ih =>
  intro xs fr h
  obtain ⟨i, v⟩ := p
  simp only [Cs]
  rw [Bf t v (h (i, v) (by simp))]
  cases E3 H' t v with
  | none => rfl
  | some q => cases decide (i < xs.length) with
   | true => exact ih _ _ fun p hp => h p (by simp [hp])
   | false => rfl
theorem FH : ∀ (t : Ty) (d : t.den), BD (BF t d) = [] := by
 intro t
 induction t with
 | unit => intro d; rfl
 | bool => intro d; rfl
 | int k => intro d; rfl
 | slice e _ => intro d; rfl
 | prod a b iha ihb => intro d; simp only [BF]; rw [DJ, iha, ihb]; rfl
 | arr n e ih =>
  intro d
  simp only [BF]
  have key : ∀ l : List Nat, BD (l.flatMap fun i => BF e (AS d i e.zero)) = [] := by
   intro l
   induction l with
   | nil => rfl
   | cons x xs ih' => rw [List.flatMap_cons, DJ, ih, ih']; rfl
  exact key _
theorem ALb (l : List AV) (n : Nat) {id : Nat} (h : id ∈ BD (l.take n)) : id ∈ BD l := by
 have := List.take_append_drop n l
 rw [← this, DJ]; simp [h]
theorem ALc (l : List AV) (n : Nat) {id : Nat} (h : id ∈ BD (l.drop n)) : id ∈ BD l := by
 have := List.take_append_drop n l
 rw [← this, DJ]; simp [h]
theorem cells?_refs {v : AV} {vs : List AV} (h : cells? v = some vs) {id : Nat} (hid : id ∈ BD vs) : id ∈ Ax v := by
 cases v with
 | junk => simp [cells?] at h
 | tup _ => simp [cells?] at h
 | agg cs => simp only [cells?, Option.some.injEq] at h; subst h; simpa [Ax] using hid
 | data t d =>
  cases t with
  | unit => simp only [cells?, Option.some.injEq] at h; subst h; simp [BD] at hid
  | prod a b => simp only [cells?, Option.some.injEq] at h; subst h; rw [FH] at hid; cases hid
  | arr n e => simp only [cells?, Option.some.injEq] at h; subst h; rw [FH] at hid; cases hid
  | bool => simp only [cells?, Option.some.injEq] at h; subst h; simpa [BD] using hid
  | int k => simp only [cells?, Option.some.injEq] at h; subst h; simpa [BD] using hid
  | slice e => simp only [cells?, Option.some.injEq] at h; subst h; simpa [BD] using hid
 | _ => simp only [cells?, Option.some.injEq] at h; subst h; simpa [BD] using hid
theorem ALp {t : Ty} {d : t.den} {v : AV} {vs cs : List AV} {s : Nat} (hp : C9 (BF t d) vs s = some cs) (hc : cells? v = some vs) {id : Nat} (hid : id ∈ BD cs) : id ∈ Ax v := by
 unfold C9 at hp
 split at hp
 ·simp only [Option.some.injEq] at hp; subst hp
  rw [DJ, DJ, List.mem_append, List.mem_append] at hid
  rcases hid with (hid | hid) | hid
  ·have := ALb _ _ hid; rw [FH] at this; cases this
  ·exact cells?_refs hc hid
  ·have := ALc _ _ hid; rw [FH] at this; cases this
 ·cases hp
theorem L5 {R : Type} (hL : Hm E) {ρ : Operand → AV} (o : Op) (ty : TypeId) {H H' : List Ob} {fz fz' : List Bool} {slot : Nat} (k : AV → Eff → Option R)
  (ha : PF (Fh ρ o) slot (slotsOf o) (EH ρ o) H H' fz fz') (hl : FI E ρ o = true) : evalOp P E R o ty ρ H fz slot k = evalOp P E R o ty ρ H' fz' slot k := by
 have tm : ∀ x ∈ o.operands, ∀ id ∈ Ax (ρ x), H[id]? = H'[id]? := fun x hx id hid => ha.heap id (Gd hx hid)
 have own : ∀ x ∈ o.operands, ∀ id, ρ x = .own id → H[id]? = H'[id]? := fun x hx id h => tm x hx id (by rw [h]; simp [Ax])
 have win : ∀ x ∈ o.operands, ∀ id off n, ρ x = .win id off n → H[id]? = H'[id]? := fun x hx id off n h => tm x hx id (by rw [h]; simp [Ax])
 have ptr : ∀ x ∈ o.operands, ∀ id off, ρ x = .ptr id off → H[id]? = H'[id]? := fun x hx id off h => tm x hx id (by rw [h]; simp [Ax])
 have ept : ∀ x ∈ o.operands, ∀ id i s, ρ x = .eptr id i s → H[id]? = H'[id]? := fun x hx id i s h => tm x hx id (by rw [h]; simp [Ax])
 have mpp : ∀ x ∈ o.operands, ∀ id, ρ x = .mp id → H[id]? = H'[id]? := fun x hx id h => tm x hx id (by rw [h]; simp [Ax])
 cases o with
 | alloc T =>
  simp only [evalOp, CJ ha (s := slot) (Nat.le_refl _) (by simp [slotsOf])]
 | box T x =>
  simp only [evalOp, CJ ha (s := slot) (Nat.le_refl _) (by simp [slotsOf])]
 | buildSlice T n parts =>
  have hf : ∀ (t : Ty) xs fr, Cs H t (parts.toList.map fun p => (p.1, ρ p.2)) xs fr = Cs H' t (parts.toList.map fun p => (p.1, ρ p.2)) xs fr := fun t xs fr =>
   TP t _ xs fr fun p hp id hid => by
    obtain ⟨q, hq, rfl⟩ := List.mem_map.1 hp
    exact tm q.2 (by simp [Op.operands]; exact ⟨q.1, by simpa using hq⟩) id hid
  simp only [evalOp, hf, F8 ha (s := slot) (Nat.le_refl _) (by simp [slotsOf]), CJ ha (s := slot) (Nat.le_refl _) (by simp [slotsOf])]
  cases sliceAt P T with
  | some p => rfl
  | none =>
   dsimp only
   cases cellAt P T with
   | none => rfl
   | some e => cases decide (n = 1) with
    | false => rfl
    | true =>
     cases hps : parts.toList with
     | nil => rfl
     | cons p r => cases r with
      | cons p' r => rfl
      | nil =>
       simp only [List.map_cons, List.map_nil]
       cases hx : ρ p.2 <;> try rfl
       rename_i id i s
       dsimp only
       simp only [CL, ept p.2 (by simp [Op.operands]; exact ⟨p.1, (by simpa using (show p ∈ parts.toList by rw [hps]; simp))⟩) id i s hx]
 | load T x =>
  simp only [evalOp]
  cases BI P T with
  | none => rfl
  | some n => cases Df P T with
   | none => rfl
   | some ag =>
    cases hx : ρ x <;> try rfl
    ·rename_i id off; simp only [ptr x (by simp [Op.operands]) id off hx]
    ·rename_i id i s; simp only [ept x (by simp [Op.operands]) id i s hx]
 | store T x y =>
  have hy := tm y (by simp [Op.operands])
  simp only [evalOp]
  cases hs : BI P T with
  | none => rfl
  | some n => cases hc : cells? (ρ y) with
   | none => rfl
   | some vs =>
    dsimp only
    cases hd : decide (vs.length = n) with
    | false => rfl
    | true =>
     dsimp only
     cases hx : ρ x <;> try rfl
     ·rename_i id off; dsimp only; rw [ptr x (by simp [Op.operands]) id off hx]
     ·rename_i id i s
      dsimp only
      rw [ept x (by simp [Op.operands]) id i s hx]
      have hun : ∀ fr, Aw (Ai fr fz) id = Aw (Ai fr fz') id := fun fr => Cz ha (by simp [EH, hx, Ax]) fr
      cases H'[id]? with
      | none => rfl
      | some ob => cases ob with
       | arr T' t xs =>
        simp only [hun, Bf t (ρ y) hy]
        cases (s == 0 && n == t.size) with
        | true => rfl
        | false =>
         dsimp only
         cases hp : C9 (BF t (AS xs i t.zero)) vs s with
         | none => rfl
         | some cs =>
          dsimp only
          rw [Lz t cs (fun id' hid => hy id' (ALp hp hc hid))]
       | _ => rfl
 | nilCheck x =>
  simp only [evalOp]
  cases hx : ρ x <;> try rfl
  ·rename_i id off; simp only [HU, ptr x (by simp [Op.operands]) id off hx]
  ·rename_i id i s; simp only [CL, ept x (by simp [Op.operands]) id i s hx]
 | fieldAddr T x f =>
  simp only [evalOp]
  cases fieldAt P T f with
  | none => rfl
  | some p =>
   obtain ⟨off, size, ag⟩ := p
   dsimp only
   cases decide (size = 0) with
   | true => rfl
   | false =>
    dsimp only
    cases hx : ρ x <;> try rfl
    ·rename_i id off; simp only [HU, ptr x (by simp [Op.operands]) id off hx]
    ·rename_i id i s; simp only [CL, ept x (by simp [Op.operands]) id i s hx]
 | makeMap T o =>
  cases o with
  | none => simp only [evalOp, CJ ha (s := slot) (Nat.le_refl _) (by simp [slotsOf])]
  | some x => rfl
 | makeSlice T x y => simp only [evalOp, CJ ha (s := slot) (Nat.le_refl _) (by simp [slotsOf])]
 | slice T x lo up mx =>
  have hx := tm x (by simp [Op.operands])
  cases mx with
  | none =>
   have hsl : ∀ sz l h, FD H sz (ρ x) l h R = FD H' sz (ρ x) l h R := fun sz l h => by
    funext kk
    unfold FD
    cases hv : ρ x with
    | data t d => cases t <;> rfl
    | own id => dsimp only; rw [own x (by simp [Op.operands]) id hv]
    | win id off n => dsimp only; rw [win x (by simp [Op.operands]) id off n hv]
    | _ => rfl
   simp only [evalOp, hsl]
  | some mm =>
   have hsl : Em H (ρ x) = Em H' (ρ x) := by
    unfold Em
    cases hv : ρ x with
    | data t d => cases t <;> rfl
    | own id => simp only [CL, own x (by simp [Op.operands]) id hv]
    | win id off n => simp only [CL, win x (by simp [Op.operands]) id off n hv]
    | _ => rfl
   simp only [evalOp, hsl, CJ ha (s := slot) (Nat.le_refl _) (by simp [slotsOf])]
 | indexAddr T x y =>
  simp only [evalOp]
  cases hu : P.underlying T with
  | none => rfl
  | some d => cases d with
   | slice e =>
    cases hy : ρ y <;> try rfl
    rename_i t d'
    cases t <;> try rfl
    cases hv : ρ x with
    | data t d => cases t <;> rfl
    | own id => dsimp only; rw [own x (by simp [Op.operands]) id hv]
    | win id off n => dsimp only; rw [win x (by simp [Op.operands]) id off n hv]
    | _ => rfl
   | array n e =>
    cases hy : ρ y <;> try rfl
    rename_i t d'
    cases t <;> try rfl
    rename_i j
    dsimp only
    cases BI P e with
    | none => rfl
    | some s => cases decide (0 ≤ (d' : Int) ∧ (d' : Int) < (n : Int)) with
     | false => rfl
     | true =>
      dsimp only
      cases hv : ρ x <;> try rfl
      ·rename_i id off; simp only [HU, ptr x (by simp [Op.operands]) id off hv]
      ·rename_i id i s; simp only [CL, ept x (by simp [Op.operands]) id i s hv]
   | _ => rfl
 | lookup T a b ok =>
  have hb := fun t => Bf t (ρ b) (tm b (by simp [Op.operands]))
  simp only [evalOp]
  cases hu : P.underlying T with
  | none => rfl
  | some d => cases d with
   | map kt vt =>
    cases hv : ρ a <;> try rfl
    rename_i id
    dsimp only
    rw [mpp a (by simp [Op.operands]) id hv]
    simp only [hb]
   | _ => rfl
 | mapUpdate T a b c =>
  have hb := fun t => Bf t (ρ b) (tm b (by simp [Op.operands]))
  have hc := fun t => Bf t (ρ c) (tm c (by simp [Op.operands]))
  simp only [evalOp]
  cases hu : P.underlying T with
  | none => rfl
  | some d => cases d with
   | map kt vt =>
    cases hv : ρ a <;> try rfl
    rename_i id
    dsimp only
    rw [mpp a (by simp [Op.operands]) id hv]
    simp only [hb, hc]
   | _ => rfl
 | mapEntry T a b =>
  have hb := fun t => Bf t (ρ b) (tm b (by simp [Op.operands]))
  simp only [evalOp]
  cases hu : P.underlying T with
  | none => rfl
  | some d => cases d with
   | map kt vt =>
    cases hv : ρ a <;> try rfl
    rename_i id
    dsimp only
    rw [mpp a (by simp [Op.operands]) id hv]
    simp only [hb]
   | _ => rfl
 | entryStore T a b c =>
  have hc := fun t => Bf t (ρ c) (tm c (by simp [Op.operands]))
  simp only [evalOp]
  cases hv : ρ a <;> try rfl
  rename_i id
  cases hs : ρ b <;> try rfl
  rename_i t d
  cases t <;> try rfl
  rename_i j
  cases j <;> try rfl
  dsimp only
  rw [mpp a (by simp [Op.operands]) id hv]
  simp only [hc]
 | insert T a b c =>
  have hb := fun t => Bf t (ρ b) (tm b (by simp [Op.operands]))
  have hc := fun t => Bf t (ρ c) (tm c (by simp [Op.operands]))
  simp only [evalOp]
  cases hu : P.underlying T with
  | none => rfl
  | some d => cases d with
   | map kt vt =>
    cases hv : ρ a <;> try rfl
    rename_i id
    dsimp only
    rw [mpp a (by simp [Op.operands]) id hv]
    simp only [hb, hc]
   | _ => rfl
 | convert S T x =>
  have hx := fun t => Bf t (ρ x) (tm x (by simp [Op.operands]))
  simp only [evalOp]
  split
  ·rfl
  ·simp only [hx]
 | call c =>
  obtain ⟨callee, args, ts⟩ := c
  cases callee with
  | value f =>
   simp only [evalOp]
   cases hf : ρ f <;> try rfl
   ·rename_i g caps
    dsimp only
    refine hL.1 g (by simpa [FI, hf] using hl) R _ H H' fz fz' slot k ⟨fun id hid => ha.heap id ?_, ha.slotH, ha.slotF, ha.len, fun id hid => by cases hid⟩
    rw [DJ, List.mem_append] at hid
    rcases hid with hid | hid
    ·have key : ∀ l : List Operand, id ∈ BD (l.map ρ) → ∃ x ∈ l, id ∈ Ax (ρ x) := by
      intro l
      induction l with
      | nil => intro h; simp [BD] at h
      | cons y l ih =>
       intro h
       simp only [List.map_cons, BD, List.mem_append] at h
       rcases h with h | h
       ·exact ⟨y, by simp, h⟩
       ·obtain ⟨x, h1, h2⟩ := ih h
        exact ⟨x, by simp [h1], h2⟩
     obtain ⟨x, h1, h2⟩ := key _ hid
     exact Gd (x := x) (by simp [Op.operands, Call.operands]; right; simpa using h1) h2
    ·exact Gd (x := f) (by simp [Op.operands, Call.operands]) (by rw [hf]; simpa [Ax] using hid)
   ·rename_i g caps
    dsimp only
    refine hL.1 g (by simpa [FI, hf] using hl) R _ H H' fz fz' slot k ⟨fun id hid => ha.heap id ?_, ha.slotH, ha.slotF, ha.len, fun id hid => by cases hid⟩
    rw [DJ, List.mem_append] at hid
    rcases hid.symm with hid | hid
    ·have key : ∀ l : List Operand, id ∈ BD (l.map ρ) → ∃ x ∈ l, id ∈ Ax (ρ x) := by
      intro l
      induction l with
      | nil => intro h; simp [BD] at h
      | cons y l ih =>
       intro h
       simp only [List.map_cons, BD, List.mem_append] at h
       rcases h with h | h
       ·exact ⟨y, by simp, h⟩
       ·obtain ⟨x, h1, h2⟩ := ih h
        exact ⟨x, by simp [h1], h2⟩
     obtain ⟨x, h1, h2⟩ := key _ hid
     exact Gd (x := x) (by simp [Op.operands, Call.operands]; right; simpa using h1) h2
    ·exact Gd (x := f) (by simp [Op.operands, Call.operands]) (by rw [hf]; simpa [Ax] using hid)
  | invoke r n => rfl
  | builtin b =>
   have ops : ∀ x ∈ args.toList, x ∈ Op.operands (.call { callee := .builtin b, args := args, argTypes := ts }) := fun x hx => by simp [Op.operands, Call.operands]; simpa using hx
   cases b with
   | len =>
    simp only [evalOp]
    cases h1 : args.toList with
    | nil => rfl
    | cons x r => cases r with
     | cons y r => rfl
     | nil =>
      have hx := ops x (by rw [h1]; simp)
      cases ts.toList with
      | nil => rfl
      | cons T r => cases r with
       | cons T' r => rfl
       | nil =>
        dsimp only
        cases hu : P.underlying T with
        | none => rfl
        | some d =>
         cases d with
         | slice e =>
          dsimp only
          cases hv : ρ x with
          | data t d => cases t <;> rfl
          | own id => dsimp only; rw [own x hx id hv]
          | win id off n => simp only [CL, win x hx id off n hv]
          | _ => rfl
         | map a b =>
          dsimp only
          cases hv : ρ x with
          | mp id => dsimp only; rw [mpp x hx id hv]
          | _ => rfl
         | _ => rfl
   | append =>
    simp only [evalOp]
    cases h1 : args.toList with
    | nil => rfl
    | cons s r => cases r with
     | nil => rfl
     | cons x r => cases r with
      | cons z r => rfl
      | nil =>
       have hs := ops s (by rw [h1]; simp)
       have hx := ops x (by rw [h1]; simp)
       have hfree := CJ ha (s := slot) (Nat.le_refl _) (by simp [slotsOf])
       cases ts.toList with
       | nil => rfl
       | cons T r => cases r with
        | nil => rfl
        | cons T' r => cases r with
         | cons T'' r => rfl
         | nil =>
          dsimp only
          cases sliceAt P T with
          | none =>
           cases decide (T = T') with
           | false => rfl
           | true =>
            dsimp only
            cases cellAt P T with
            | none => rfl
            | some e =>
             cases hvx : ρ x <;> try rfl
             rename_i ix
             dsimp only
             rw [own x hx ix hvx]
             cases hvs : ρ s with
             | own id => simp only [hfree, own s hs id hvs]
             | _ => simp only [hfree]
          | some p =>
           obtain ⟨e, t⟩ := p
           cases decide (T = T') with
           | false =>
            dsimp only
            cases ρ s <;> try rfl
            cases ρ x with
            | data tx d =>
             cases tx with
             | int kx =>
              simp only [hfree]
             | _ => rfl
            | _ => rfl
           | true =>
            dsimp only
            rw [Bf (.slice t) (ρ x) (tm x hx)]
            cases E3 H' (.slice t) (ρ x) with
            | none => rfl
            | some q =>
             obtain ⟨ys, fr⟩ := q
             cases zeroAt P e with
             | none => rfl
             | some zz =>
              cases (P.info? e).map (fun i => decide (i.bytes ≤ 1024)) with
              | none => rfl
              | some bb => cases bb with
               | false => rfl
               | true =>
                dsimp only
                cases hv : ρ s <;> try rfl
                ·simp only [hfree]
                ·rename_i id
                 have hun : Aw fz id = Aw fz' id := Cz ha (by simp [EH, h1, hv, Ax]) []
                 dsimp only
                 rw [own s hs id hv]
                 simp only [hfree, hun]
                ·rename_i id off n
                 have hun : Aw fz id = Aw fz' id := Cz ha (by simp [EH, h1, hv, Ax]) []
                 cases off with
                 | succ off => rfl
                 | zero => simp only [win s hs id 0 n hv, hfree, hun]
   | clear =>
    simp only [evalOp]
    cases h1 : args.toList with
    | nil => rfl
    | cons x r => cases r with
     | cons z r => rfl
     | nil =>
      have hx := ops x (by rw [h1]; simp)
      cases ts.toList with
      | nil => rfl
      | cons T r => cases r with
       | cons T' r => rfl
       | nil =>
        dsimp only
        cases sliceAt P T with
        | none => rfl
        | some p =>
         obtain ⟨e, t⟩ := p
         dsimp only
         cases zeroAt P e with
         | none => rfl
         | some zz =>
          dsimp only
          cases hv : ρ x <;> try rfl
          ·rename_i id
           have hun : Aw fz id = Aw fz' id := Cz ha (by simp [EH, h1, hv, Ax]) []
           dsimp only
           rw [own x hx id hv]
           simp only [hun]
          ·rename_i id off n
           have hun : Aw fz id = Aw fz' id := Cz ha (by simp [EH, h1, hv, Ax]) []
           simp only [win x hx id off n hv, hun]
   | _ => rfl
 | makeFunc fn first cs => cases fn <;> rfl
 | _ => rfl
theorem AE8 {R : Type} (hL : Hm E) {ρ : Operand → AV} (o : Op) (ty : TypeId) {H H' : List Ob} {fz fz' : List Bool} {slot : Nat} (k : AV → Eff → Option R)
  (ha : PF (Ji ρ o) slot (slotsOf o) (EH ρ o) H H' fz fz') (hl : FI E ρ o = true) : evalOp P E R o ty ρ H fz slot k = evalOp P E R o ty ρ H' fz' slot k := by
 cases o with
 | move x => rfl
 | assign x => rfl
 | pick c a b => rfl
 | extract x i => rfl
 | build T ps => rfl
 | makeFunc f a b => cases f <;> rfl
 | store T x y =>
  by_cases hp : ∃ id off, ρ x = .ptr id off
  ·obtain ⟨id, off, hx⟩ := hp
   have hid := ha.heap id (by simp only [Ji, hx]; simp)
   simp only [evalOp, hx, hid]
  ·have e : Ji ρ (.store T x y) = Fh ρ (.store T x y) := by
    simp only [Ji]
    split
    ·rename_i id off hx; exact absurd ⟨id, off, hx⟩ hp
    ·rfl
   rw [e] at ha
   exact L5 hL (.store T x y) ty k ha hl
 | _ => exact L5 hL _ ty k ha hl
theorem AA2 {l : List AV} {id : Nat} (h : id ∈ BD l) : ∃ v ∈ l, id ∈ Ax v := by
 induction l with
 | nil => simp [BD] at h
 | cons a l ih =>
  simp only [BD, List.mem_append] at h
  rcases h with h | h
  ·exact ⟨a, by simp, h⟩
  ·obtain ⟨v, hv, hi⟩ := ih h; exact ⟨v, by simp [hv], hi⟩
theorem B8 {l : List AV} {v : AV} {id : Nat} (hv : v ∈ l) (h : id ∈ Ax v) : id ∈ BD l := by
 induction l with
 | nil => cases hv
 | cons a l ih =>
  simp only [BD, List.mem_append]
  rcases List.mem_cons.1 hv with rfl | hv
  ·exact .inl h
  ·exact .inr (ih hv)
theorem AJb {R : Type} (hL : Hm E) {ρ : Operand → AV} {φ : List Nat} (o : Op) (ty : TypeId) {H H' : List Ob} {fz fz' : List Bool} {slot : Nat} (k : AV → Eff → Option R) (hw : Jg E ρ o φ H = true)
  (ha : PF (φ.map (· / 2)) slot (slotsOf o) (φ.map (· / 2)) H H' fz fz') : evalOp P E R o ty ρ H fz slot k = evalOp P E R o ty ρ H' fz' slot k := by
 unfold Jg at hw
 simp only [Bool.and_eq_true] at hw
 obtain ⟨⟨⟨h1, h2⟩, h3⟩, h4⟩ := hw
 unfold Qd at h4
 split at h4
 ·rename_i f args ts
  split at h4
  ·rename_i g caps hf
   simp only [evalOp, hf]
   have wtS : ∀ {i : Nat}, wt φ i = true → i ∈ φ.map (· / 2) := by
    intro i hi
    unfold wt at hi
    simp only [List.contains_eq_mem, decide_eq_true_eq] at hi
    exact List.mem_map.2 ⟨_, hi, by omega⟩
   refine hL.2 g h4 R _ H H' fz fz' slot k (φ.map (· / 2)) (fun id hid => ?_) (fun id hid cs hc j hj => ?_) ⟨ha.heap, ha.slotH, ha.slotF, ha.len, ha.wrF⟩
   ·rw [List.all_eq_true] at h1
    refine wtS (h1 id ?_)
    unfold Fh
    rw [List.mem_flatMap]
    obtain ⟨v, hv, hi⟩ := AA2 hid
    rcases List.mem_append.1 hv with hv | hv
    ·obtain ⟨x, hx, rfl⟩ := List.mem_map.1 hv
     exact ⟨x, by simp [Op.operands, Call.operands]; right; simpa using hx, hi⟩
    ·exact ⟨f, by simp [Op.operands, Call.operands], by rw [hf]; simp only [Ax]; exact B8 hv hi⟩
   ·unfold Lb at h2
    rw [List.all_eq_true] at h2
    obtain ⟨c, hcφ, rfl⟩ := List.mem_map.1 hid
    have := h2 c hcφ
    rw [hc] at this
    simp only [List.all_eq_true] at this
    exact wtS (this j hj)
  ·rename_i g caps hf
   simp only [evalOp, hf]
   have wtS : ∀ {i : Nat}, wt φ i = true → i ∈ φ.map (· / 2) := by
    intro i hi
    unfold wt at hi
    simp only [List.contains_eq_mem, decide_eq_true_eq] at hi
    exact List.mem_map.2 ⟨_, hi, by omega⟩
   refine hL.2 g h4 R _ H H' fz fz' slot k (φ.map (· / 2)) (fun id hid => ?_) (fun id hid cs hc j hj => ?_) ⟨ha.heap, ha.slotH, ha.slotF, ha.len, ha.wrF⟩
   ·rw [List.all_eq_true] at h1
    refine wtS (h1 id ?_)
    unfold Fh
    rw [List.mem_flatMap]
    obtain ⟨v, hv, hi⟩ := AA2 hid
    rcases (List.mem_append.1 hv).symm with hv | hv
    ·obtain ⟨x, hx, rfl⟩ := List.mem_map.1 hv
     exact ⟨x, by simp [Op.operands, Call.operands]; right; simpa using hx, hi⟩
    ·exact ⟨f, by simp [Op.operands, Call.operands], by rw [hf]; simp only [Ax]; exact B8 hv hi⟩
   ·unfold Lb at h2
    rw [List.all_eq_true] at h2
    obtain ⟨c, hcφ, rfl⟩ := List.mem_map.1 hid
    have := h2 c hcφ
    rw [hc] at this
    simp only [List.all_eq_true] at this
    exact wtS (this j hj)
  ·cases h4
 ·cases h4
end
end Go.Pev
end
section
namespace Go.Pev
open Go.RowKit
section
variable {P : Program} {E : Env}
def Bx (all : List Oper) (g : Option (Nat × Bool)) (st : St) : Option Bool :=
 match g with
 | none => some true
 | some (j, want) => match (all[j]?).bind (·.dst) with
  | none => none
  | some d => match st.tmps[d]? with
   | some (.data .bool b) => some (b == want)
   | some (.tup []) => some false
   | _ => none
theorem AC3 {l : List AV} {d : Nat} {v : AV} (h : l[d]? = some v) : l.set d v = l := by
 apply List.ext_getElem?
 intro i
 by_cases hid : i = d
 ·subst hid
  rw [h, List.getElem?_set_self (by
   rcases Nat.lt_or_ge i l.length with h' | h'
   ·exact h'
   ·rw [List.getElem?_eq_none h'] at h; cases h)]
 ·rw [List.getElem?_set_ne (Ne.symm hid)]
theorem AEy {R : Type} {all : List Oper} {g : Option (Nat × Bool)} {st : St} {yes no : St → Option R} {r : R} (h : guarded R all g st yes no = some r) :
  (Bx all g st = some true ∧ yes st = some r) ∨ (Bx all g st = some false ∧ no st = some r) := by
 unfold guarded at h
 unfold Bx
 split at h
 ·exact .inl ⟨rfl, h⟩
 ·rename_i j want
  split at h
  ·cases h
  ·rename_i d hj
   simp only [hj]
   split at h
   ·rename_i b hd
    have hs := AC3 hd
    simp only [hd]
    split at h
    ·rw [hs] at h
     split at h
     ·exact .inl ⟨rfl, h⟩
     ·exact .inr ⟨rfl, h⟩
    ·rw [hs] at h
     split at h
     ·exact .inr ⟨rfl, h⟩
     ·exact .inl ⟨rfl, h⟩
   ·rename_i hd
    simp only [hd]
    exact .inr ⟨by first | rfl | trivial, h⟩
   ·cases h
def Kn (E : Env) (H : List Ob) (ρ : Operand → AV) (o : Op) (φ : List Nat) : Prop := (S9 φ = true ∧ Jg E ρ o φ H = true) ∨ (within (Ji ρ o) φ = true ∧ NM (EH ρ o) φ = true ∧ FI E ρ o = true)
def CD (P : Program) (E : Env) (all : List Oper) (o : Oper) (φ : List Nat) (slot : Nat) (st st1 : St) : Prop :=
 (Bx all o.guard st = some true ∧ ∃ v e, (MK φ = true ∨ (Kn E st.heap (BH st.tmps) o.op φ ∧ ABe (writer o.op || S9 φ) φ slot (slotsOf o.op) e = true)) ∧
  (∀ (R : Type) (k : AV → Eff → Option R), evalOp P E R o.op o.type (BH st.tmps) st.heap st.frz slot k = k v e) ∧ st1 = (st.app e).put o.dst v) ∨
 (Bx all o.guard st = some false ∧ st1 = st.put o.dst BG)
theorem AKx (hE : ∀ g, AR P g (E.spec g)) {R : Type} {all : List Oper} {o : Oper} {φ : List Nat} {slot : Nat} {st : St} {k : St → Option R} {r : R} (h : Ry P E R all o φ slot st k = some r) :
  ∃ st1, CD P E all o φ slot st st1 ∧ k st1 = some r := by
 unfold Ry at h
 rcases AEy h with ⟨hg, h⟩ | ⟨hg, h⟩
 ·split at h
  ·rename_i hw
   simp only [Bool.or_eq_true, Bool.and_eq_true] at hw
   obtain ⟨v, e, h1, h2, _⟩ := IP hE o.op R _ _ _ _ _ _ _ h
   split at h1
   ·rename_i he
    rw [Bool.or_eq_true] at he
    refine ⟨_, .inl ⟨hg, v, e, ?_, h2, rfl⟩, h1⟩
    rcases hw with hw | hw
    ·exact .inl hw
    ·rcases he with he | he
     ·exact .inl he
     ·refine .inr ⟨?_, he⟩
      rcases hw with hw | hw
      ·exact .inl hw
      ·exact .inr ⟨hw.2.1.1, hw.2.1.2, hw.2.2⟩
   ·cases h1
  ·cases h
 ·exact ⟨_, .inr ⟨hg, rfl⟩, h⟩
def AB3 (P : Program) (E : Env) (all : List Oper) (fp : Nat → List Nat) (sl : Nat → Nat) : List Nat → St → St → Prop
 | [], st, st' => st = st'
 | i :: l, st, st' => ∃ o s1, all[i]? = some o ∧ CD P E all o (fp i) (sl i) st s1 ∧ AB3 P E all fp sl l s1 st'
def Bu (all : List Oper) (base i : Nat) : Nat := base + EP (all.take i)
theorem I0 (a b : List Oper) : EP (a ++ b) = EP a + EP b := by
 unfold EP
 induction a with
 | nil => simp
 | cons x a ih => simp only [List.cons_append, List.map_cons, List.foldr_cons, ih]; omega
theorem Zk (hE : ∀ g, AR P g (E.spec g)) {R : Type} {all : List Oper} {fp : List (List Nat)} {base : Nat} {k : St → Option R} {r : R} : ∀ (rest pre : List Oper) (fp' : List (List Nat)) (slot : Nat) (st : St),
  all = pre ++ rest → fp' = fp.drop pre.length → slot = Bu all base pre.length → HR P E R all rest fp' slot st k = some r →
  ∃ st', AB3 P E all (fun i => fp.getD i []) (Bu all base) (List.range' pre.length rest.length) st st' ∧ k st' = some r := by
 intro rest
 induction rest with
 | nil => intro pre fp' slot st _ _ _ h; exact ⟨st, rfl, h⟩
 | cons o rest ih =>
  intro pre fp' slot st hall hfp hsl h
  simp only [HR] at h
  obtain ⟨s1, h1, h2⟩ := AKx hE h
  have hlen : (pre ++ [o]).length = pre.length + 1 := by simp
  have hfp1 : fp'.headD [] = fp.getD pre.length [] := by
   rw [hfp, List.getD_eq_getElem?_getD, List.headD_eq_head?_getD, List.head?_drop]
  have hfp2 : fp'.tail = fp.drop (pre ++ [o]).length := by rw [hfp, hlen, List.tail_drop]
  have hs2 : slot + slotsOf o.op = Bu all base (pre ++ [o]).length := by
   rw [hsl, hlen]
   unfold Bu
   have e1 : all.take (pre.length + 1) = pre ++ [o] := by rw [hall, List.take_append, List.take_of_length_le (by omega)]; simp
   have e2 : all.take pre.length = pre := by rw [hall]; simp
   rw [e1, e2, I0]
   simp [EP]; omega
  obtain ⟨st', h3, h4⟩ := ih (pre ++ [o]) _ _ s1 (by rw [hall]; simp) hfp2 hs2 h2
  refine ⟨st', ?_, h4⟩
  rw [List.length_cons, List.range'_succ]
  refine ⟨o, s1, by rw [hall]; simp, ?_, by rw [hlen] at h3; exact h3⟩
  show CD P E all o (fp.getD pre.length []) (Bu all base pre.length) st s1
  rw [← hfp1, ← hsl]; exact h1
theorem AGs : ∀ (l : List (Nat × Ob)) (H : List Ob), (BJ l H).length = H.length := by
 intro l
 induction l with
 | nil => intro H; rfl
 | cons p l ih => intro H; obtain ⟨i, o⟩ := p; simp only [BJ]; rw [ih, List.length_set]
theorem BT {i : Nat} : ∀ (l : List (Nat × Ob)) (H : List Ob), (∀ p ∈ l, p.1 ≠ i) → (BJ l H)[i]? = H[i]? := by
 intro l
 induction l with
 | nil => intro H _; rfl
 | cons p l ih =>
  intro H h
  obtain ⟨j, o⟩ := p
  simp only [BJ]
  rw [ih _ fun p hp => h p (by simp [hp]), Ay (Ne.symm (h (j, o) (by simp)))]
theorem Lx {i : Nat} : ∀ (l : List (Nat × Ob)) (H H' : List Ob), H[i]? = H'[i]? → (BJ l H)[i]? = (BJ l H')[i]? := by
 intro l
 induction l with
 | nil => intro H H' h; exact h
 | cons p l ih =>
  intro H H' h
  obtain ⟨j, o⟩ := p
  simp only [BJ]
  refine ih _ _ ?_
  by_cases hij : i = j
  ·subst hij
   rw [List.getElem?_set_self', List.getElem?_set_self', h]
  ·rw [Ay hij, Ay hij]; exact h
theorem AC4 (a b : List (Nat × Ob)) (h : ∀ p ∈ a, ∀ q ∈ b, p.1 ≠ q.1) (H : List Ob) : BJ a (BJ b H) = BJ b (BJ a H) := by
 apply List.ext_getElem?
 intro i
 by_cases ha : ∀ p ∈ a, p.1 ≠ i
 ·rw [BT a _ ha]
  exact Lx b _ _ (BT a _ ha).symm
 ·have hb : ∀ q ∈ b, q.1 ≠ i := by
   intro q hq hqi
   refine ha fun p hp hpi => h p hp q hq (by rw [hpi, hqi])
  rw [BT b _ hb]
  exact Lx a _ _ (BT b _ hb)
theorem AGt (a b : List Nat) (fz : List Bool) : Ai a (Ai b fz) = Ai b (Ai a fz) := by
 apply List.ext_getElem?
 intro i
 have hl : ∀ (x : List Bool) (y : List Bool), x.length = y.length → (∀ i, x.getD i false = y.getD i false) → x[i]? = y[i]? := by
  intro x y hlen hg
  have := hg i
  rw [List.getD_eq_getElem?_getD, List.getD_eq_getElem?_getD] at this
  rcases Nat.lt_or_ge i x.length with h | h
  ·rw [List.getElem?_eq_getElem h, List.getElem?_eq_getElem (hlen ▸ h)] at this ⊢
   simpa using this
  ·rw [List.getElem?_eq_none h, List.getElem?_eq_none (hlen ▸ h)]
 refine hl _ _ (by simp [CV]) fun i => ?_
 rw [A0, A0, A0, A0, CV, CV]
 cases fz.getD i false <;> cases decide (i ∈ a) <;> cases decide (i ∈ b) <;> cases decide (i < fz.length) <;> rfl
theorem UD {l φ : List Nat} (h : within l φ = true) {i : Nat} (hi : i ∈ l) : rd φ i = true := by
 unfold within at h
 rw [List.all_eq_true] at h
 exact h i hi
theorem AF8 {l φ : List Nat} (h : NM l φ = true) {i : Nat} (hi : i ∈ l) : wt φ i = true := by
 unfold NM at h
 rw [List.all_eq_true] at h
 exact h i hi
theorem IB {φ : List Nat} {i : Nat} (h : wt φ i = true) : rd φ i = true := by
 unfold wt at h; unfold rd; rw [h]; simp
theorem JC {wr : Bool} {φ : List Nat} {slot n : Nat} {e : Eff} (h : ABe wr φ slot n e = true) : e.heap = none ∧ (∀ p ∈ e.objs, (slot ≤ p.1 ∧ p.1 < slot + n) ∨ (wr = true ∧ wt φ p.1 = true)) ∧ ∀ i ∈ e.frz, rd φ i = true := by
 unfold ABe at h
 simp only [Bool.and_eq_true] at h
 obtain ⟨⟨h1, h2⟩, h3⟩ := h
 refine ⟨by simpa using h1, fun p hp => ?_, fun i hi => UD h3 hi⟩
 rw [List.all_eq_true] at h2
 have := h2 p hp
 simp only [Bool.or_eq_true, Bool.and_eq_true, decide_eq_true_eq] at this
 rcases this with h | h
 ·exact .inl h
 ·exact .inr h
theorem E5 {e : Eff} (h : e.heap = none) (H : List Ob) : De e H = BJ e.objs H := by unfold De; rw [h]
theorem GU {e : Eff} (h : e.heap = none) (F : List Bool) : JH e F = Ai e.frz F := by unfold JH; rw [h]
theorem Bs {all : List Oper} {x y : Oper} (hap : apart? all x y = true) (st : St) (v : AV) : ∀ z ∈ y.op.operands, BH (st.put x.dst v).tmps z = BH st.tmps z := by
 obtain ⟨h1, _, _⟩ := Oper.apart_spec hap
 intro z hz
 cases hd : x.dst with
 | none => rfl
 | some d =>
  cases z with
  | tmp t =>
   have hne : d ≠ t := by
    rintro rfl
    refine h1 d hd ?_
    unfold Oper.looksAt
    refine List.mem_append_left _ ?_
    rw [List.mem_filterMap]
    exact ⟨.tmp d, by simpa using hz, rfl⟩
   simp [BH, St.put, List.getElem?_set_ne hne]
  | const v => rfl
  | global g => rfl
  | func f => rfl
theorem Fa {all : List Oper} {x y : Oper} (hap : apart? all x y = true) (st : St) (v : AV) (H : List Ob) (F : List Bool) : Bx all y.guard ({ st with heap := H, frz := F }.put x.dst v) = Bx all y.guard st := by
 obtain ⟨h1, _, _⟩ := Oper.apart_spec hap
 unfold Bx
 cases hg : y.guard with
 | none => rfl
 | some p =>
  obtain ⟨j, want⟩ := p
  dsimp only
  cases hj : (all[j]?).bind (·.dst) with
  | none => rfl
  | some d =>
   dsimp only
   cases hd : x.dst with
   | none => rfl
   | some d' =>
    have hne : d' ≠ d := by
     rintro rfl
     refine h1 d' hd ?_
     unfold Oper.looksAt
     refine List.mem_append_right _ ?_
     simp [hg]
     exact hj
    simp [St.put, List.getElem?_set_ne hne]
theorem St.put_comm (st : St) {x y : Option Tmp} (v u : AV) (h : ∀ d, x = some d → y ≠ some d) : (st.put x v).put y u = (st.put y u).put x v := by
 cases x with
 | none => rfl
 | some d =>
  cases y with
  | none => rfl
  | some d' =>
   have hne : d ≠ d' := fun e => h d rfl (e ▸ rfl)
   simp only [St.put]
   rw [List.set_comm _ _ hne]
theorem St.JG (st : St) (e : Eff) (d : Option Tmp) (v : AV) : (st.put d v).app e = (st.app e).put d v := by cases d <;> rfl
theorem AUZ {φ : List Nat} {i : Nat} (h : rd φ i = true) : ∃ c ∈ φ, c / 2 = i := by
 unfold rd at h
 simp only [Bool.or_eq_true, List.contains_eq_mem, decide_eq_true_eq] at h
 rcases h with h | h
 ·exact ⟨_, h, by omega⟩
 ·exact ⟨_, h, by omega⟩
theorem AI0 {all : List Oper} {x y : Oper} {φx φy : List Nat} {sx sy : Nat} (h : indep all x y φx φy sx sy = true) :
  apart? all x y = true ∧ ((S9 φx = false ∧ S9 φy = false ∧ Tt x.op y.op = true) ∨ (MK φx = true ∧ Bb y.op = true) ∨ (MK φy = true ∧ Bb x.op = true) ∨ MK φx = false ∧ MK φy = false ∧ (∀ i, rd φy i = true → ¬ (sx ≤ i ∧ i < sx + slotsOf x.op)) ∧ (∀ i, rd φx i = true → ¬ (sy ≤ i ∧ i < sy + slotsOf y.op)) ∧ (∀ i, wt φx i = true → rd φy i = true → False) ∧ (∀ i, wt φy i = true → rd φx i = true → False)) := by
 unfold indep at h
 rw [Bool.and_eq_true] at h
 obtain ⟨h1, h⟩ := h
 refine ⟨h1, ?_⟩
 simp only [Bool.or_eq_true, Bool.and_eq_true, Bool.not_eq_true'] at h
 rcases h with ((h | h) | h) | h
 ·exact .inr (.inl h)
 ·exact .inr (.inr (.inl h))
 rotate_left
 ·exact .inl ⟨h.1, h.2.1, h.2.2⟩
 obtain ⟨⟨⟨⟨⟨hx, hy⟩, h2⟩, h3⟩, h4⟩, h5⟩ := h
 refine .inr (.inr (.inr ⟨hx, hy, ?_⟩))
 rw [List.all_eq_true] at h2 h3 h4 h5
 have own : ∀ {φ : List Nat} {s n : Nat}, (∀ c ∈ φ, (!(decide (s ≤ c / 2) && decide (c / 2 < s + n))) = true) → ∀ i, rd φ i = true → ¬ (s ≤ i ∧ i < s + n) := by
  intro φ s n h i hi
  obtain ⟨c, hc, rfl⟩ := AUZ hi
  have := h c hc
  simp at this
  omega
 have wr : ∀ {φ ψ : List Nat}, (∀ c ∈ φ, (decide (c % 2 = 0) || !(rd ψ (c / 2))) = true) → ∀ i, wt φ i = true → rd ψ i = true → False := by
  intro φ ψ h i hi hr
  unfold wt at hi
  simp only [List.contains_eq_mem, decide_eq_true_eq] at hi
  have := h _ hi
  have e1 : (2 * i + 1) % 2 = 1 := by omega
  have e2 : (2 * i + 1) / 2 = i := by omega
  rw [e1, e2, hr] at this
  simp at this
 exact ⟨own h2, own h3, wr h4, wr h5⟩
theorem JI {all : List Oper} {x y : Oper} (h : apart? all x y = true) : apart? all y x = true := by
 obtain ⟨h1, h2, h3⟩ := Oper.apart_spec h
 unfold apart? Oper.apart
 rw [Bool.and_eq_true]
 constructor
 ·cases hy : y.dst with
  | none => rfl
  | some d =>
   have a := h3 d hy
   have b : x.dst ≠ some d := fun e => h2 d e hy
   simp [a, b]
 ·cases hx : x.dst with
  | none => rfl
  | some d => simpa using h1 d hx
theorem AAO {φ : List Nat} {H H' : List Ob} (h : ∀ i, rd φ i = true → H[i]? = H'[i]?) : Lb φ H = Lb φ H' := by
 unfold Lb
 rw [Bool.eq_iff_iff, List.all_eq_true, List.all_eq_true]
 have e : ∀ c ∈ φ, H[c / 2]? = H'[c / 2]? := by
  intro c hc
  refine h _ ?_
  unfold rd
  simp only [Bool.or_eq_true, List.contains_eq_mem, decide_eq_true_eq]
  rcases Nat.mod_two_eq_zero_or_one c with h' | h'
  ·left; rw [show 2 * (c / 2) = c from by omega]; exact hc
  ·right; rw [show 2 * (c / 2) + 1 = c from by omega]; exact hc
 constructor <;> intro hh c hc
 ·rw [← e c hc]; exact hh c hc
 ·rw [e c hc]; exact hh c hc
theorem AFr {ρ : Operand → AV} {o : Op} {φ : List Nat} {H H' : List Ob} (h : ∀ i, rd φ i = true → H[i]? = H'[i]?) (hk : Kn E H ρ o φ) : Kn E H' ρ o φ := by
 rcases hk with ⟨h1, h2⟩ | hk
 ·refine .inl ⟨h1, ?_⟩
  unfold Jg at *
  rw [← AAO h]; exact h2
 ·exact .inr hk
theorem ABX {x : Oper} {φx φy : List Nat} {sx : Nat} (h1 : ∀ i, rd φy i = true → ¬ (sx ≤ i ∧ i < sx + slotsOf x.op)) (h3 : ∀ i, wt φx i = true → rd φy i = true → False) {st : St} {vx : AV} {ex : Eff} {bx : Bool} (hex : ABe bx φx sx (slotsOf x.op) ex = true) :
  ∀ i, rd φy i = true → ((st.app ex).put x.dst vx).heap[i]? = st.heap[i]? := by
 intro i hi
 obtain ⟨q1, q2, q3⟩ := JC hex
 have hheap : ((st.app ex).put x.dst vx).heap = BJ ex.objs st.heap := by cases x.dst <;> exact E5 q1 _
 rw [hheap]
 refine BT _ _ fun p hp => ?_
 rintro rfl
 rcases q2 p hp with h | ⟨_, h⟩
 ·exact h1 _ hi h
 ·exact h3 _ h hi
theorem AAt (hL : Hm E) {all : List Oper} {x y : Oper} {φx φy : List Nat} {sx sy : Nat} (hap : apart? all x y = true) (h1 : ∀ i, rd φy i = true → ¬ (sx ≤ i ∧ i < sx + slotsOf x.op))
  (h2 : ∀ i, rd φx i = true → ¬ (sy ≤ i ∧ i < sy + slotsOf y.op)) (h3 : ∀ i, wt φx i = true → rd φy i = true → False) (h4 : ∀ i, wt φy i = true → rd φx i = true → False) (hsl : sx + slotsOf x.op ≤ sy ∨ sy + slotsOf y.op ≤ sx)
  {st : St} {vx : AV} {ex : Eff} {bx : Bool} (hex : ABe bx φx sx (slotsOf x.op) ex = true) (hk : Kn E ((st.app ex).put x.dst vx).heap (BH st.tmps) y.op φy ∨ Kn E st.heap (BH st.tmps) y.op φy) :
  ∀ (R : Type) (k : AV → Eff → Option R), evalOp P E R y.op y.type (BH ((st.app ex).put x.dst vx).tmps) ((st.app ex).put x.dst vx).heap ((st.app ex).put x.dst vx).frz sy k = evalOp P E R y.op y.type (BH st.tmps) st.heap st.frz sy k := by
 intro R k
 obtain ⟨q1, q2, q3⟩ := JC hex
 have hput : ∀ z ∈ y.op.operands, BH ((st.app ex).put x.dst vx).tmps z = BH st.tmps z := fun z hz => by
  have := Bs hap (st.app ex) vx z hz
  exact this
 have hheap : ((st.app ex).put x.dst vx).heap = BJ ex.objs st.heap := by cases x.dst <;> exact E5 q1 _
 have hfrz : ((st.app ex).put x.dst vx).frz = Ai ex.frz st.frz := by cases x.dst <;> exact GU q1 _
 rw [hheap] at hk
 rw [hheap, hfrz]
 have hsame : ∀ i, rd φy i = true → (BJ ex.objs st.heap)[i]? = st.heap[i]? := by
  intro i hi
  refine BT _ _ fun p hp => ?_
  rintro rfl
  rcases q2 p hp with h | ⟨_, h⟩
  ·exact h1 _ hi h
  ·exact h3 _ h hi
 have hkn : Kn E st.heap (BH st.tmps) y.op φy := hk.elim (fun h => AFr hsame h) fun h => h
 rcases hkn with ⟨_, hw⟩ | ⟨hw, hww, hl⟩
 ·rw [Bi y.op y.type _ _ sy k hput]
  symm
  have wtS : ∀ c ∈ φy, wt φy (c / 2) = true := by
   intro c hc
   unfold Jg at hw
   simp only [Bool.and_eq_true] at hw
   have := hw.1.2
   rw [List.all_eq_true] at this
   have := this c hc
   simp only [beq_iff_eq] at this
   unfold wt
   simp only [List.contains_eq_mem, decide_eq_true_eq]
   rw [show 2 * (c / 2) + 1 = c from by omega]
   exact hc
  refine AJb hL y.op y.type k hw ⟨fun id hid => ?_, fun s a1 a2 => ?_, fun s a1 a2 => ?_, (CV _ _).symm, fun id hid => ?_⟩
  ·obtain ⟨c, hc, rfl⟩ := List.mem_map.1 hid
   exact (hsame _ (IB (wtS c hc))).symm
  ·symm
   refine BT _ _ fun p hp => ?_
   rintro rfl
   rcases q2 p hp with h | ⟨hwx, h⟩
   ·omega
   ·exact h2 _ (IB h) ⟨a1, a2⟩
  ·rw [A0]
   have : s ∉ ex.frz := fun h => h2 _ (q3 s h) ⟨a1, a2⟩
   simp [this]
  ·obtain ⟨c, hc, rfl⟩ := List.mem_map.1 hid
   rw [A0]
   have : c / 2 ∉ ex.frz := fun h => h4 _ (wtS c hc) (q3 _ h)
   simp [this]
 have hag : PF (Ji (BH st.tmps) y.op) sy (slotsOf y.op) (EH (BH st.tmps) y.op) (BJ ex.objs st.heap) st.heap (Ai ex.frz st.frz) st.frz := by
  refine ⟨fun id hid => ?_, fun s a1 a2 => ?_, fun s a1 a2 => ?_, CV _ _, fun id hid => ?_⟩
  ·have hφ := UD hw hid
   refine BT _ _ fun p hp => ?_
   rintro rfl
   rcases q2 p hp with h | ⟨hwx, h⟩
   ·exact h1 _ hφ h
   ·exact h3 _ h hφ
  ·refine BT _ _ fun p hp => ?_
   rintro rfl
   rcases q2 p hp with h | ⟨hwx, h⟩
   ·omega
   ·exact h2 _ (IB h) ⟨a1, a2⟩
  ·rw [A0]
   have : s ∉ ex.frz := fun h => h2 _ (q3 s h) ⟨a1, a2⟩
   simp [this]
  ·rw [A0]
   have hφ := AF8 hww hid
   have : id ∉ ex.frz := fun h => h4 _ hφ (q3 id h)
   simp [this]
 rw [Bi y.op y.type _ _ sy k hput]
 exact AE8 hL y.op y.type k hag hl
theorem ACR {ρ ρ' : Operand → AV} {o : Op} (h : ∀ z ∈ o.operands, ρ z = ρ' z) : EH ρ o = EH ρ' o := by
 unfold EH
 split
 ·rw [h _ (by simp [Op.operands])]
 ·rw [h _ (by simp [Op.operands])]
 ·rw [h _ (by simp [Op.operands])]
 ·rw [h _ (by simp [Op.operands])]
 ·rw [h _ (by simp [Op.operands])]
 ·rename_i args ts
  cases ha : args.toList with
  | nil => rfl
  | cons s r =>
   have : s ∈ args := by
    have : s ∈ args.toList := by rw [ha]; simp
    simpa using this
   simp only
   rw [h s (by simp [Op.operands, Call.operands]; exact this)]
 ·rename_i args ts
  cases ha : args.toList with
  | nil => rfl
  | cons s r =>
   have : s ∈ args := by
    have : s ∈ args.toList := by rw [ha]; simp
    simpa using this
   simp only
   rw [h s (by simp [Op.operands, Call.operands]; exact this)]
 ·rfl
theorem Il {ρ ρ' : Operand → AV} {o : Op} (h : ∀ z ∈ o.operands, ρ z = ρ' z) : Fh ρ o = Fh ρ' o := by
 unfold Fh
 have key : ∀ l : List Operand, (∀ z ∈ l, ρ z = ρ' z) → (l.flatMap fun x => Ax (ρ x)) = l.flatMap fun x => Ax (ρ' x) := by
  intro l
  induction l with
  | nil => intro _; rfl
  | cons x l ih => intro h; rw [List.flatMap_cons, List.flatMap_cons, h x (by simp), ih fun z hz => h z (by simp [hz])]
 exact key _ fun z hz => h z (by simpa using hz)
theorem AGT {ρ ρ' : Operand → AV} {o : Op} (h : ∀ z ∈ o.operands, ρ z = ρ' z) : Ji ρ o = Ji ρ' o := by
 cases o with
 | store T x y =>
  simp only [Ji]
  rw [h x (by simp [Op.operands]), Il h]
 | move x => rfl
 | assign x => rfl
 | pick c a b => rfl
 | extract x i => rfl
 | build T ps => rfl
 | makeFunc f a b => rfl
 | _ => exact Il h
theorem Z6 {ρ ρ' : Operand → AV} {o : Op} (h : ∀ z ∈ o.operands, ρ z = ρ' z) : FI E ρ o = FI E ρ' o := by
 unfold FI
 split
 ·rename_i f args ts
  rw [h f (by simp [Op.operands, Call.operands])]
 ·rfl
theorem Fe {H : List Ob} {ρ ρ' : Operand → AV} {o : Op} {φ : List Nat} (h : ∀ z ∈ o.operands, ρ z = ρ' z) (hk : Kn E H ρ o φ) : Kn E H ρ' o φ := by
 rcases hk with ⟨h0, hk⟩ | ⟨h1, h2, h3⟩
 ·refine .inl ⟨h0, ?_⟩
  have e : Qd E ρ o = Qd E ρ' o := by
   unfold Qd
   split
   ·rename_i f args ts
    rw [h f (by simp [Op.operands, Call.operands])]
   ·rfl
  unfold Jg at *
  rw [← e, ← Il h]; exact hk
 ·rw [AGT h] at h1
  rw [ACR h] at h2
  rw [Z6 h] at h3
  exact .inr ⟨h1, h2, h3⟩
theorem L0 {R : Type} {o : Op} (h : Bb o = true) (ty : TypeId) (ρ : Operand → AV) (H H' : List Ob) (fz fz' : List Bool) (slot : Nat) (k : AV → Eff → Option R) :
  evalOp P E R o ty ρ H fz slot k = evalOp P E R o ty ρ H' fz' slot k := by
 cases o <;> first | rfl | (simp only [Bb, Bool.false_eq_true] at h)
theorem I8 {o : Op} (h : Bb o = true) (ty : TypeId) (ρ : Operand → AV) (H : List Ob) (fz : List Bool) (slot : Nat) {v : AV} {e : Eff}
  (hk : ∀ (R : Type) (k : AV → Eff → Option R), evalOp P E R o ty ρ H fz slot k = k v e) : e = {} := by
 have := hk Eff (fun _ e => some e)
 cases o <;> first | (simp only [Bb, Bool.false_eq_true] at h; done) | skip
 all_goals
  simp only [evalOp] at this
  repeat' split at this
  all_goals first | (cases this; done) | (simp only [Option.some.injEq] at this; exact this.symm)
theorem YL {o : Op} (h : Ey o = true) (ty : TypeId) (ρ : Operand → AV) (H : List Ob) (fz : List Bool) (slot : Nat) {v : AV} {e : Eff}
  (hk : ∀ (R : Type) (k : AV → Eff → Option R), evalOp P E R o ty ρ H fz slot k = k v e) : e = {} := by
 by_cases hh : Bb o = true
 ·exact I8 hh ty ρ H fz slot hk
 have := hk Eff (fun _ e => some e)
 cases o with
 | call c =>
  obtain ⟨callee, args, ts⟩ := c
  cases callee with
  | builtin b =>
   cases b <;> first | (simp only [Ey, Bb, Bool.false_eq_true] at h; done) | skip
   simp only [evalOp] at this
   repeat' split at this
   all_goals first | (cases this; done) | (simp only [Option.some.injEq] at this; exact this.symm)
  | _ => simp only [Ey, Bb, Bool.false_eq_true] at h
 | slice T x lo hi mx =>
  cases mx with
  | some m => simp only [Ey, Bb, Bool.false_eq_true] at h
  | none =>
   simp only [evalOp, FD] at this
   repeat' split at this
   all_goals first | (cases this; done) | (simp only [Option.some.injEq] at this; exact this.symm)
 | makeFunc fn first cs =>
  cases fn <;> first | (simp only [Ey, Bb, Bool.false_eq_true] at h; done) | skip
  simp only [evalOp] at this
  repeat' split at this
  all_goals first | (cases this; done) | (simp only [Option.some.injEq] at this; exact this.symm)
 | load _ _ | convert _ _ _ | fieldAddr _ _ _ | field _ _ _ | indexAddr _ _ _ | index _ _ _ | nilCheck _ | lookup _ _ _ _ | build _ _ =>
  simp only [evalOp] at this
  repeat' split at this
  all_goals first | (cases this; done) | (simp only [Option.some.injEq] at this; exact this.symm)
 | _ => first | exact absurd h hh | (simp only [Ey, Bb, Bool.false_eq_true] at h; done) | exact absurd rfl hh
theorem AQM {H : List Ob} {ρ : Operand → AV} {o : Op} {φ : List Nat} (h : Bb o = true) (hk : Kn E H ρ o φ) : within (Ji ρ o) φ = true ∧ NM (EH ρ o) φ = true ∧ FI E ρ o = true := by
 rcases hk with ⟨_, hk⟩ | hk
 ·exfalso
  unfold Jg at hk
  simp only [Bool.and_eq_true] at hk
  have := hk.2
  unfold Qd at this
  split at this
  ·cases h
  ·cases this
 ·exact hk
theorem AKv {all : List Oper} {x y : Oper} {φx φy : List Nat} {sx sy : Nat} (hap : apart? all x y = true) (hn : MK φx = true) (hl : Bb y.op = true)
  {st s1 s2 : St} (hx : CD P E all x φx sx st s1) (hy : CD P E all y φy sy s1 s2) : ∃ s1', CD P E all y φy sy st s1' ∧ CD P E all x φx sx s1' s2 := by
 have hap' := JI hap
 obtain ⟨_, hdd, _⟩ := Oper.apart_spec hap
 have gx : ∀ (v : AV) (H : List Ob) (F : List Bool) (s : St), Bx all y.guard ({ s with heap := H, frz := F }.put x.dst v) = Bx all y.guard s := fun v H F s => Fa hap s v H F
 have gy : ∀ (v : AV) (H : List Ob) (F : List Bool) (s : St), Bx all x.guard ({ s with heap := H, frz := F }.put y.dst v) = Bx all x.guard s := fun v H F s => Fa hap' s v H F
 have first : ∀ (s1 : St), (∀ z ∈ y.op.operands, BH s1.tmps z = BH st.tmps z) → Bx all y.guard s1 = Bx all y.guard st → CD P E all y φy sy s1 s2 → ∃ vy, CD P E all y φy sy st (st.put y.dst vy) ∧ s2 = s1.put y.dst vy := by
  intro s1 hput hg hy
  rcases hy with ⟨g2, vy, ey, hqy, b3, rfl⟩ | ⟨g2, rfl⟩
  ·have he := I8 hl _ _ _ _ _ b3
   subst he
   refine ⟨vy, .inl ⟨by rw [← hg]; exact g2, vy, {}, ?_, fun R k => ?_, rfl⟩, rfl⟩
   ·rcases hqy with h | ⟨h1, h4⟩
    ·exact .inl h
    ·exact .inr ⟨.inr (AQM hl (Fe hput h1)), h4⟩
   ·rw [← b3 R k, Bi y.op y.type _ _ sy k hput]
    exact L0 hl _ _ _ _ _ _ _ _
  ·exact ⟨BG, .inr ⟨by rw [← hg]; exact g2, rfl⟩, rfl⟩
 have put1 : ∀ (v : AV) (s : St), ∀ z ∈ y.op.operands, BH (s.put x.dst v).tmps z = BH s.tmps z := fun v s z hz => Bs hap s v z hz
 rcases hx with ⟨g1, vx, ex, hqx, a3, rfl⟩ | ⟨g1, rfl⟩
 ·obtain ⟨vy, h1, rfl⟩ := first _ (put1 vx (st.app ex)) (gx vx (De ex st.heap) (JH ex st.frz) st) hy
  refine ⟨_, h1, .inl ⟨?_, vx, ex, .inl hn, fun R k => ?_, ?_⟩⟩
  ·rw [show Bx all x.guard (st.put y.dst vy) = Bx all x.guard st from gy vy st.heap st.frz st]; exact g1
  ·have hh : (st.put y.dst vy).heap = st.heap ∧ (st.put y.dst vy).frz = st.frz := by cases y.dst <;> exact ⟨rfl, rfl⟩
   rw [hh.1, hh.2, Bi x.op x.type _ _ sx k fun z hz => Bs hap' st vy z hz]
   exact a3 R k
  ·rw [St.JG, St.put_comm _ vx vy hdd]
 ·obtain ⟨vy, h1, rfl⟩ := first _ (put1 BG st) (gx BG st.heap st.frz st) hy
  refine ⟨_, h1, .inr ⟨?_, ?_⟩⟩
  ·rw [show Bx all x.guard (st.put y.dst vy) = Bx all x.guard st from gy vy st.heap st.frz st]; exact g1
  ·rw [St.put_comm _ BG vy hdd]
theorem AKu {all : List Oper} {x y : Oper} {φx φy : List Nat} {sx sy : Nat} (hap : apart? all x y = true) (hn : MK φy = true) (hl : Bb x.op = true)
  {st s1 s2 : St} (hx : CD P E all x φx sx st s1) (hy : CD P E all y φy sy s1 s2) : ∃ s1', CD P E all y φy sy st s1' ∧ CD P E all x φx sx s1' s2 := by
 have hap' := JI hap
 obtain ⟨_, hdd, _⟩ := Oper.apart_spec hap
 have gx : ∀ (v : AV) (s : St), Bx all y.guard (s.put x.dst v) = Bx all y.guard s := fun v s => Fa hap s v s.heap s.frz
 have gy : ∀ (v : AV) (H : List Ob) (F : List Bool) (s : St), Bx all x.guard ({ s with heap := H, frz := F }.put y.dst v) = Bx all x.guard s := fun v H F s => Fa hap' s v H F
 have hh : ∀ v : AV, (st.put x.dst v).heap = st.heap ∧ (st.put x.dst v).frz = st.frz := fun v => by cases x.dst <;> exact ⟨rfl, rfl⟩
 have behind : ∀ (s : St) (vx : AV), (∀ z ∈ x.op.operands, BH s.tmps z = BH st.tmps z) → Bx all x.guard s = Bx all x.guard st → CD P E all x φx sx st (st.put x.dst vx) → (∃ v, CD P E all x φx sx st (st.put x.dst v)) := fun s vx _ _ h => ⟨vx, h⟩
 have xs : ∃ vx, s1 = st.put x.dst vx ∧ ∀ s : St, (∀ z ∈ x.op.operands, BH s.tmps z = BH st.tmps z) → Bx all x.guard s = Bx all x.guard st → CD P E all x φx sx s (s.put x.dst vx) := by
  rcases hx with ⟨g1, vx, ex, hqx, a3, rfl⟩ | ⟨g1, rfl⟩
  ·have he := I8 hl _ _ _ _ _ a3
   subst he
   refine ⟨vx, rfl, fun s hput hg => .inl ⟨by rw [hg]; exact g1, vx, {}, ?_, fun R k => ?_, rfl⟩⟩
   ·rcases hqx with h | ⟨h1, h4⟩
    ·exact .inl h
    ·exact .inr ⟨.inr (AQM hl (Fe (fun z hz => (hput z hz).symm) h1)), h4⟩
   ·rw [← a3 R k, Bi x.op x.type _ _ sx k hput]
    exact L0 hl _ _ _ _ _ _ _ _
  ·exact ⟨BG, rfl, fun s _ hg => .inr ⟨by rw [hg]; exact g1, rfl⟩⟩
 obtain ⟨vx, rfl, hxs⟩ := xs
 have hput : ∀ z ∈ y.op.operands, BH (st.put x.dst vx).tmps z = BH st.tmps z := fun z hz => Bs hap st vx z hz
 rcases hy with ⟨g2, vy, ey, hqy, b3, rfl⟩ | ⟨g2, rfl⟩
 ·refine ⟨(st.app ey).put y.dst vy, .inl ⟨by rw [← gx vx st]; exact g2, vy, ey, .inl hn, fun R k => ?_, rfl⟩, ?_⟩
  ·have := b3 R k
   rw [(hh vx).1, (hh vx).2, Bi y.op y.type _ _ sy k hput] at this
   exact this
  ·have := hxs ((st.app ey).put y.dst vy) (fun z hz => Bs hap' (st.app ey) vy z hz) (gy vy (De ey st.heap) (JH ey st.frz) st)
   rw [St.JG, St.put_comm _ vx vy hdd]
   exact this
 ·refine ⟨st.put y.dst BG, .inr ⟨by rw [← gx vx st]; exact g2, rfl⟩, ?_⟩
  have := hxs (st.put y.dst BG) (fun z hz => Bs hap' st BG z hz) (gy BG st.heap st.frz st)
  rw [St.put_comm _ vx BG hdd]
  exact this
theorem AKw (hL : Hm E) {all : List Oper} {x y : Oper} {φx φy : List Nat} {sx sy : Nat} (hap : apart? all x y = true) (n1 : MK φx = false) (n2 : MK φy = false) (i1 : ∀ i, rd φy i = true → ¬ (sx ≤ i ∧ i < sx + slotsOf x.op)) (i2 : ∀ i, rd φx i = true → ¬ (sy ≤ i ∧ i < sy + slotsOf y.op)) (i3 : ∀ i, wt φx i = true → rd φy i = true → False) (i4 : ∀ i, wt φy i = true → rd φx i = true → False) (hsl : sx + slotsOf x.op ≤ sy)
  {st s1 s2 : St} (hx : CD P E all x φx sx st s1) (hy : CD P E all y φy sy s1 s2) : ∃ s1', CD P E all y φy sy st s1' ∧ CD P E all x φx sx s1' s2 := by
 have hap' := JI hap
 obtain ⟨_, hdd, _⟩ := Oper.apart_spec hap
 have gx : ∀ (v : AV) (H : List Ob) (F : List Bool) (s : St), Bx all y.guard ({ s with heap := H, frz := F }.put x.dst v) = Bx all y.guard s := fun v H F s => Fa hap s v H F
 have gy : ∀ (v : AV) (H : List Ob) (F : List Bool) (s : St), Bx all x.guard ({ s with heap := H, frz := F }.put y.dst v) = Bx all x.guard s := fun v H F s => Fa hap' s v H F
 have gxa : ∀ v e, Bx all y.guard ((st.app e).put x.dst v) = Bx all y.guard st := fun v e => gx v (De e st.heap) (JH e st.frz) st
 have gya : ∀ v e, Bx all x.guard ((st.app e).put y.dst v) = Bx all x.guard st := fun v e => gy v (De e st.heap) (JH e st.frz) st
 rcases hx with ⟨g1, vx, ex, hqx, a3, rfl⟩ | ⟨g1, rfl⟩
 ·obtain ⟨a1, a4⟩ := hqx.resolve_left (by rw [n1]; simp)
  rcases hy with ⟨g2, vy, ey, hqy, b3, rfl⟩ | ⟨g2, rfl⟩
  ·obtain ⟨b1, b4⟩ := hqy.resolve_left (by rw [n2]; simp)
   have hput : ∀ z ∈ y.op.operands, BH ((st.app ex).put x.dst vx).tmps z = BH st.tmps z := fun z hz => Bs hap (st.app ex) vx z hz
   have b1 := Fe hput b1
   have ov := AAt (P := P) hL hap i1 i2 i3 i4 (.inl hsl) (vx := vx) a4 (.inl b1)
   refine ⟨(st.app ey).put y.dst vy, .inl ⟨by rw [← gxa vx ex]; exact g2, vy, ey, .inr ⟨AFr (ABX i1 i3 a4) b1, b4⟩, fun R k => by rw [← ov R k]; exact b3 R k, rfl⟩, ?_⟩
   have hput' : ∀ z ∈ x.op.operands, BH ((st.app ey).put y.dst vy).tmps z = BH st.tmps z := fun z hz => Bs hap' (st.app ey) vy z hz
   have ov' := AAt (P := P) hL hap' i2 i1 i4 i3 (.inr hsl) (st := st) (vx := vy) b4 (.inr a1)
   refine .inl ⟨by rw [gya vy ey]; exact g1, vx, ex, .inr ⟨Fe (fun z hz => (hput' z hz).symm) (AFr (fun i hi => (ABX i2 i4 b4 i hi).symm) a1), a4⟩, fun R k => by rw [ov' R k]; exact a3 R k, ?_⟩
   obtain ⟨p1, p2, p3⟩ := JC a4
   obtain ⟨r1, r2, r3⟩ := JC b4
   have hdis : ∀ p ∈ ey.objs, ∀ q ∈ ex.objs, p.1 ≠ q.1 := by
    intro p hp q hq he
    rcases r2 p hp with h | ⟨hw, h⟩ <;> rcases p2 q hq with h' | ⟨hw', h'⟩
    ·omega
    ·exact i2 _ (IB h') (he ▸ h)
    ·exact i1 _ (IB h) (he ▸ h')
    ·exact i3 _ h' (he ▸ IB h)
   rw [St.JG, St.JG, St.put_comm _ vx vy hdd]
   congr 2
   unfold St.app
   rw [E5 p1, E5 r1, GU p1, GU r1, E5 r1, E5 p1, GU r1, GU p1, AC4 _ _ hdis, AGt]
  ·refine ⟨st.put y.dst BG, .inr ⟨by rw [← gxa vx ex]; exact g2, rfl⟩, .inl ⟨?_, vx, ex, .inr ⟨?_, a4⟩, fun R k => ?_, ?_⟩⟩
   ·rw [show Bx all x.guard (st.put y.dst BG) = Bx all x.guard st from gy BG st.heap st.frz st]; exact g1
   ·have hh : (st.put y.dst BG).heap = st.heap := by cases y.dst <;> rfl
    rw [hh]
    exact Fe (fun z hz => (Bs hap' st BG z hz).symm) a1
   ·have hh : (st.put y.dst BG).heap = st.heap ∧ (st.put y.dst BG).frz = st.frz := by cases y.dst <;> exact ⟨rfl, rfl⟩
    rw [hh.1, hh.2, Bi x.op x.type _ _ sx k fun z hz => Bs hap' st BG z hz]
    exact a3 R k
   ·rw [St.JG, St.put_comm _ vx BG hdd]
 ·rcases hy with ⟨g2, vy, ey, hqy, b3, rfl⟩ | ⟨g2, rfl⟩
  ·obtain ⟨b1, b4⟩ := hqy.resolve_left (by rw [n2]; simp)
   have hh : (st.put x.dst BG).heap = st.heap ∧ (st.put x.dst BG).frz = st.frz := by cases x.dst <;> exact ⟨rfl, rfl⟩
   rw [hh.1] at b1
   have hput : ∀ z ∈ y.op.operands, BH (st.put x.dst BG).tmps z = BH st.tmps z := fun z hz => Bs hap st BG z hz
   have b1 := Fe hput b1
   refine ⟨(st.app ey).put y.dst vy, .inl ⟨by rw [← show Bx all y.guard (st.put x.dst BG) = Bx all y.guard st from gx BG st.heap st.frz st]; exact g2, vy, ey, .inr ⟨b1, b4⟩, fun R k => ?_, rfl⟩, .inr ⟨by rw [gya vy ey]; exact g1, ?_⟩⟩
   ·have := b3 R k
    rw [hh.1, hh.2, Bi y.op y.type _ _ sy k hput] at this
    exact this
   ·rw [St.JG, St.put_comm _ BG vy hdd]
  ·exact ⟨st.put y.dst BG, .inr ⟨by rw [← show Bx all y.guard (st.put x.dst BG) = Bx all y.guard st from gx BG st.heap st.frz st]; exact g2, rfl⟩,
    .inr ⟨by rw [show Bx all x.guard (st.put y.dst BG) = Bx all x.guard st from gy BG st.heap st.frz st]; exact g1, St.put_comm _ BG BG hdd⟩⟩
def AQK (H H' : List Ob) (id : Nat) : Prop := (∃ a b es, H[id]? = some (.map a b es)) ∧ ∃ a b es, H'[id]? = some (.map a b es)
theorem Hk {H H' : List Ob} (h : ∀ id, H[id]? = H'[id]? ∨ AQK H H' id) (t : Ty) (v : AV) : Dz H t v = Dz H' t v := by
 cases v <;> simp only [Dz]
 ·rename_i id
  rcases h id with h | ⟨⟨a, b, es, h1⟩, a', b', es', h2⟩
  ·rw [h]
  ·rw [h1, h2]
 ·rename_i id off n
  rcases h id with h | ⟨⟨a, b, es, h1⟩, a', b', es', h2⟩
  ·rw [h]
  ·rw [h1, h2]
theorem ASd {α : Type} {one one' : List AV → Option (α × List Nat × List AV)} (h1 : ∀ cs, one cs = one' cs) : ∀ (n : Nat) (cs : List AV), N2 one n cs = N2 one' n cs := by
 intro n
 induction n with
 | zero => intro cs; rfl
 | succ n ih =>
  intro cs
  simp only [N2]
  rw [← h1 cs]
  cases one cs with
  | none => rfl
  | some p => obtain ⟨x, f, r⟩ := p; simp only [ih]
theorem AEo {H H' : List Ob} (h : ∀ id, H[id]? = H'[id]? ∨ AQK H H' id) : ∀ (t : Ty) (cs : List AV), Au H t cs = Au H' t cs := by
 intro t
 induction t with
 | unit => intro cs; cases cs <;> rfl
 | bool => intro cs; cases cs with
  | nil => rfl
  | cons c cs => unfold Au; rw [Hk h .bool c]
 | int k => intro cs; cases cs with
  | nil => rfl
  | cons c cs => unfold Au; rw [Hk h (.int k) c]
 | slice e _ => intro cs; cases cs with
  | nil => rfl
  | cons c cs => unfold Au; rw [Hk h (.slice e) c]
 | prod a b iha ihb =>
  intro cs
  simp only [Au]
  rw [← iha cs]
  cases Au H a cs with
  | none => rfl
  | some p => obtain ⟨x, f, r⟩ := p; simp only [ihb]
 | arr n e ih => intro cs; simp only [Au]; exact ASd ih n cs
theorem ATW {H H' : List Ob} (h : ∀ id, H[id]? = H'[id]? ∨ AQK H H' id) (t : Ty) (v : AV) : E3 H t v = E3 H' t v := by
 unfold E3
 split
 ·cases v <;> simp only [asAgg]
  rename_i cs
  rw [AEo h t cs]
 ·exact Hk h t v
theorem ASE {α β : Type} [DecidableEq α] (es : List (α × β)) (k j : α) (z : β) : (AT (Ah es k ((AT es k).getD z)) j).getD z = (AT es j).getD z := by
 have key : ∀ (es : List (α × β)) (v : β), AT (Ah es k v) j = if j = k then some v else AT es j := by
  intro es v
  induction es with
  | nil =>
   simp only [Ah, AT]
   by_cases h : j = k
   ·rw [if_pos h, if_pos h.symm]
   ·rw [if_neg h, if_neg (Ne.symm h)]
  | cons e es ih =>
   obtain ⟨a, x⟩ := e
   by_cases h1 : a = k
   ·subst h1
    simp only [Ah, AT, if_true]
    by_cases h : j = a
    ·rw [if_pos h, if_pos h.symm]
    ·rw [if_neg h, if_neg (Ne.symm h), if_neg (Ne.symm h)]
   ·simp only [Ah, AT, h1, if_false, ih]
    by_cases h : a = j
    ·subst h
     rw [if_pos rfl, if_neg h1, if_pos rfl]
    ·rw [if_neg h, if_neg h]
 rw [key]
 by_cases h : j = k
 ·rw [if_pos h, h]; rfl
 ·rw [if_neg h]
theorem AEJ {R : Type} {H : List Ob} {j : Nat} {a b : Ty} {es es' : List (a.den × b.den)} (hj : H[j]? = some (.map a b es)) (hval : ∀ key : a.den, (AT (α := a.den) es' key).getD b.zero = (AT (α := a.den) es key).getD b.zero)
  (T : TypeId) (m x : Operand) (ty : TypeId) (ρ : Operand → AV) (fz fz' : List Bool) (slot slot' : Nat) (kk : AV → Eff → Option R) :
  evalOp P E R (.lookup T m x false) ty ρ (H.set j (.map a b es')) fz' slot' kk = evalOp P E R (.lookup T m x false) ty ρ H fz slot kk := by
 have hlt := As hj
 have hm : ∀ id, (H.set j (.map a b es'))[id]? = H[id]? ∨ AQK (H.set j (.map a b es')) H id := fun id => by
  by_cases hid : id = j
  ·subst hid
   exact .inr ⟨⟨a, b, es', BP hlt⟩, a, b, es, hj⟩
  ·exact .inl (Ay hid)
 simp only [evalOp, ATW hm]
 cases P.underlying T with
 | none => rfl
 | some d =>
  cases d with
  | map kt vt =>
   cases hv : ρ m <;> try rfl
   rename_i id
   dsimp only
   by_cases hid : id = j
   ·subst hid
    rw [BP hlt, hj]
    dsimp only
    cases decide (Sf P kt = some a) with
    | false => rfl
    | true => cases zeroAt P vt with
     | none => rfl
     | some z =>
      obtain ⟨b', zc⟩ := z
      dsimp only
      cases decide (b' = b) with
      | false => rfl
      | true => cases E3 H a (ρ x) with
       | none => rfl
       | some p =>
        obtain ⟨key, f⟩ := p
        dsimp only
        rw [hval key]
   ·rw [Ay hid]
  | _ => rfl
theorem AEA {H : List Ob} {fz : List Bool} {T : TypeId} {m x : Operand} {ty : TypeId} {ρ : Operand → AV} {slot : Nat} {v : AV} {e : Eff} (h : ∀ (R : Type) (k : AV → Eff → Option R), evalOp P E R (.mapEntry T m x) ty ρ H fz slot k = k v e) :
  ∃ id a b es, ∃ key : a.den, H[id]? = some (.map a b es) ∧ e = { objs := [(id, .map a b (Ah (α := a.den) es key ((AT (α := a.den) es key).getD b.zero)))] } := by
 have := h Eff (fun _ e => some e)
 simp only [evalOp] at this
 split at this
 ·split at this
  ·rename_i id _ _ a b es ho
   split at this
   ·split at this
    ·simp only [Option.some.injEq] at this
     exact ⟨_, _, _, _, _, ho, this.symm⟩
    ·cases this
   ·cases this
  ·cases this
 ·cases this
theorem AQL {H H' : List Ob} {ρ : Operand → AV} {o : Op} {φ : List Nat} (hw : S9 φ = false) (hk : Kn E H ρ o φ) : Kn E H' ρ o φ := by
 rcases hk with ⟨h1, _⟩ | hk
 ·rw [hw] at h1; cases h1
 ·exact .inr hk
theorem AKt {all : List Oper} {x y : Oper} {φx φy : List Nat} {sx sy : Nat} (hap : apart? all x y = true) (w1 : S9 φx = false) (w2 : S9 φy = false) (hm : Tt x.op y.op = true)
  {st s1 s2 : St} (hx : CD P E all x φx sx st s1) (hy : CD P E all y φy sy s1 s2) : ∃ s1', CD P E all y φy sy st s1' ∧ CD P E all x φx sx s1' s2 := by
 have hap' := JI hap
 obtain ⟨_, hdd, _⟩ := Oper.apart_spec hap
 obtain ⟨T, m, kx, ok, hxo, T', m', ky, hyo, hok⟩ : ∃ T m kx ok, x.op = .lookup T m kx ok ∧ ∃ T' m' ky, y.op = .mapEntry T' m' ky ∧ ok = false := by
  cases hxo : x.op <;> cases hyo : y.op <;> rw [hxo, hyo] at hm <;> simp only [Tt, Bool.false_eq_true] at hm
  exact ⟨_, _, _, _, rfl, _, _, _, rfl, by simpa using hm⟩
 subst hok
 have gx : ∀ (v : AV) (s : St), Bx all y.guard (s.put x.dst v) = Bx all y.guard s := fun v s => Fa hap s v s.heap s.frz
 have gy : ∀ (v : AV) (H : List Ob) (F : List Bool) (s : St), Bx all x.guard ({ s with heap := H, frz := F }.put y.dst v) = Bx all x.guard s := fun v H F s => Fa hap' s v H F
 have hh : ∀ v : AV, (st.put x.dst v).heap = st.heap ∧ (st.put x.dst v).frz = st.frz := fun v => by cases x.dst <;> exact ⟨rfl, rfl⟩
 have xs : ∃ vx, s1 = st.put x.dst vx ∧ ∀ s : St, (∀ z ∈ x.op.operands, BH s.tmps z = BH st.tmps z) → Bx all x.guard s = Bx all x.guard st →
   (s.heap = st.heap ∨ ∃ j a b es es', st.heap[j]? = some (.map a b es) ∧ s.heap = st.heap.set j (.map a b es') ∧ ∀ key : a.den, (AT (α := a.den) es' key).getD b.zero = (AT (α := a.den) es key).getD b.zero) → CD P E all x φx sx s (s.put x.dst vx) := by
  rcases hx with ⟨g1, vx, ex, hqx, a3, rfl⟩ | ⟨g1, rfl⟩
  ·have he := YL (by rw [hxo]; rfl) _ _ _ _ _ a3
   subst he
   refine ⟨vx, rfl, fun s hput hg hH => .inl ⟨by rw [hg]; exact g1, vx, {}, ?_, fun R k => ?_, rfl⟩⟩
   ·rcases hqx with h | ⟨h1, h4⟩
    ·exact .inl h
    ·exact .inr ⟨AQL w1 (Fe (fun z hz => (hput z hz).symm) h1), h4⟩
   ·rw [← a3 R k, Bi x.op x.type _ _ sx k hput]
    rcases hH with hH | ⟨j, a, b, es, es', h1, h2, h3⟩
    ·rw [hH, hxo]; rfl
    ·rw [h2, hxo]
     exact AEJ h1 h3 _ _ _ _ _ _ _ _ _ _
  ·exact ⟨BG, rfl, fun s _ hg _ => .inr ⟨by rw [hg]; exact g1, rfl⟩⟩
 obtain ⟨vx, rfl, hxs⟩ := xs
 have hput : ∀ z ∈ y.op.operands, BH (st.put x.dst vx).tmps z = BH st.tmps z := fun z hz => Bs hap st vx z hz
 rcases hy with ⟨g2, vy, ey, hqy, b3, rfl⟩ | ⟨g2, rfl⟩
 ·have b3' : ∀ (R : Type) (k : AV → Eff → Option R), evalOp P E R y.op y.type (BH st.tmps) st.heap st.frz sy k = k vy ey := fun R k => by
   have := b3 R k
   rw [(hh vx).1, (hh vx).2, Bi y.op y.type _ _ sy k hput] at this
   exact this
  refine ⟨(st.app ey).put y.dst vy, .inl ⟨by rw [← gx vx st]; exact g2, vy, ey, ?_, b3', rfl⟩, ?_⟩
  ·rcases hqy with h | ⟨h1, h4⟩
   ·exact .inl h
   ·exact .inr ⟨AQL w2 (Fe hput h1), h4⟩
  ·rw [hyo] at b3'
   obtain ⟨j, a, b, es, key, ho, rfl⟩ := AEA b3'
   have := hxs ((st.app { objs := [(j, .map a b (Ah (α := a.den) es key ((AT (α := a.den) es key).getD b.zero)))] }).put y.dst vy) (fun z hz => Bs hap' (st.app _) vy z hz) (gy vy _ _ st)
    (.inr ⟨j, a, b, es, _, ho, by cases y.dst <;> rfl, fun k => ASE (α := a.den) es key k b.zero⟩)
   rw [St.JG, St.put_comm _ vx vy hdd]
   exact this
 ·refine ⟨st.put y.dst BG, .inr ⟨by rw [← gx vx st]; exact g2, rfl⟩, ?_⟩
  have := hxs (st.put y.dst BG) (fun z hz => Bs hap' st BG z hz) (gy BG st.heap st.frz st) (.inl (by cases y.dst <;> rfl))
  rw [St.put_comm _ vx BG hdd]
  exact this
theorem AQx (hL : Hm E) {all : List Oper} {x y : Oper} {φx φy : List Nat} {sx sy : Nat} (hin : indep all x y φx φy sx sy = true) (hsl : sx + slotsOf x.op ≤ sy)
  {st s1 s2 : St} (hx : CD P E all x φx sx st s1) (hy : CD P E all y φy sy s1 s2) : ∃ s1', CD P E all y φy sy st s1' ∧ CD P E all x φx sx s1' s2 := by
 obtain ⟨hap, h⟩ := AI0 hin
 rcases h with ⟨w1, w2, hm⟩ | ⟨h1, h2⟩ | ⟨h1, h2⟩ | ⟨n1, n2, i1, i2, i3, i4⟩
 ·exact AKt hap w1 w2 hm hx hy
 ·exact AKv hap h1 h2 hx hy
 ·exact AKu hap h1 h2 hx hy
 ·exact AKw hL hap n1 n2 i1 i2 i3 i4 hsl hx hy
end
end Go.Pev
end
section
namespace Go.Pev
open Go.RowKit
section
variable {P : Program} {E : Env}
theorem AIS {all : List Oper} {y : Oper} {φy : List Nat} {sy : Nat} : ∀ {l : List (Nat × Oper × List Nat × Nat)}, Tr all y φy sy l = true → ∀ q ∈ l, reach all 8 y q.1 = true ∨ indep all q.2.1 y q.2.2.1 φy q.2.2.2 sy = true := by
 intro l
 induction l with
 | nil => intro _ q hq; cases hq
 | cons p l ih =>
  intro h q hq
  obtain ⟨i, x, φx, sx⟩ := p
  simp only [Tr, Bool.and_eq_true, Bool.or_eq_true] at h
  rcases List.mem_cons.1 hq with rfl | hq
  ·rcases h.1 with h1 | h1 | h1
   ·exact .inl (by simp only [reach, h1, Bool.true_or])
   ·exact .inr h1
   ·exact .inl h1
  ·exact ih h.2 q hq
theorem ADx {all : List Oper} {fp : List (List Nat)} {base : Nat} : ∀ (rest pre : List Oper) (fp' : List (List Nat)) (slot : Nat) (acc : List (Nat × Oper × List Nat × Nat)), all = pre ++ rest → fp' = fp.drop pre.length → slot = Bu all base pre.length →
  (∀ j x, j < pre.length → all[j]? = some x → (j, x, fp.getD j [], Bu all base j) ∈ acc) → ADy all rest fp' pre.length slot acc = true →
  ∀ i y, pre.length ≤ i → all[i]? = some y → (∀ e ∈ y.after.toList, Region.binds .any e = true → e.on < i) ∧
   ∀ j x, j < i → all[j]? = some x → reach all 8 y j = true ∨ indep all x y (fp.getD j []) (fp.getD i []) (Bu all base j) (Bu all base i) = true := by
 intro rest
 induction rest with
 | nil =>
  intro pre fp' slot acc hall _ _ _ _ i y hi hy
  rw [hall, List.append_nil, List.getElem?_eq_none hi] at hy; cases hy
 | cons o rest ih =>
  intro pre fp' slot acc hall hfp hsl hacc h i y hi hy
  simp only [ADy, Bool.and_eq_true] at h
  obtain ⟨⟨h1, h2⟩, h3⟩ := h
  have hlen : (pre ++ [o]).length = pre.length + 1 := by simp
  have hfp1 : fp'.headD [] = fp.getD pre.length [] := by
   rw [hfp, List.getD_eq_getElem?_getD, List.headD_eq_head?_getD, List.head?_drop]
  have hfp2 : fp'.tail = fp.drop (pre ++ [o]).length := by rw [hfp, hlen, List.tail_drop]
  have hs2 : slot + slotsOf o.op = Bu all base (pre ++ [o]).length := by
   rw [hsl, hlen]
   unfold Bu
   have e1 : all.take (pre.length + 1) = pre ++ [o] := by rw [hall, List.take_append, List.take_of_length_le (by omega)]; simp
   have e2 : all.take pre.length = pre := by rw [hall]; simp
   rw [e1, e2, I0]
   simp [EP]; omega
  have ho : all[pre.length]? = some o := by rw [hall]; simp
  rcases Nat.lt_or_ge pre.length i with hlt | hge
  ·refine ih (pre ++ [o]) _ _ _ (by rw [hall]; simp) hfp2 hs2 (fun j x hj hx => ?_) (by rw [hlen]; exact h3) i y (by rw [hlen]; exact hlt) hy
   rw [hlen] at hj
   by_cases hjp : j = pre.length
   ·subst hjp
    rw [ho] at hx; cases hx
    rw [hfp1, hsl]; simp
   ·exact List.mem_cons_of_mem _ (hacc j x (by omega) hx)
  ·have hip : i = pre.length := by omega
   subst hip
   rw [ho] at hy; cases hy
   refine ⟨fun e he hb => ?_, fun j x hj hx => ?_⟩
   ·rw [List.all_eq_true] at h2
    have := h2 e he
    rw [hb] at this
    simpa using this
   ·rw [hfp1, hsl] at h1
    exact AIS h1 _ (hacc j x hj hx)
theorem AQ1 {all : List Oper} {base i j : Nat} {x : Oper} (hij : j < i) (hx : all[j]? = some x) : Bu all base j + slotsOf x.op ≤ Bu all base i := by
 unfold Bu
 have hjl : j < all.length := by
  rcases Nat.lt_or_ge j all.length with h | h
  ·exact h
  ·rw [List.getElem?_eq_none h] at hx; cases hx
 have e : all.take (j + 1) = all.take j ++ [x] := by
  rw [List.take_succ_eq_append_getElem hjl]
  rw [List.getElem?_eq_getElem hjl] at hx
  cases hx; rfl
 have e2 : all.take i = all.take (j + 1) ++ (all.drop (j + 1)).take (i - (j + 1)) := by
  rw [← List.take_add]; congr 1; omega
 rw [e2, e, I0, I0]
 simp [EP]; omega
theorem AJ7 (hL : Hm E) {all : List Oper} {fp : Nat → List Nat} {base : Nat} {i : Nat} {y : Oper} (hy : all[i]? = some y) :
  ∀ (l1 l2 : List Nat) (st st' : St), (∀ j ∈ l1, j < i ∧ ∀ x, all[j]? = some x → indep all x y (fp j) (fp i) (Bu all base j) (Bu all base i) = true) →
   AB3 P E all fp (Bu all base) (l1 ++ i :: l2) st st' → AB3 P E all fp (Bu all base) (i :: (l1 ++ l2)) st st' := by
 intro l1
 induction l1 with
 | nil => intro l2 st st' _ h; exact h
 | cons j l1 ih =>
  intro l2 st st' hj h
  obtain ⟨x, s1, hx, h1, h2⟩ := h
  obtain ⟨y', s2, hy', h3, h4⟩ := ih l2 s1 st' (fun k hk => hj k (by simp [hk])) h2
  rw [hy] at hy'; cases hy'
  obtain ⟨hlt, hin⟩ := hj j (by simp)
  obtain ⟨s1', h5, h6⟩ := AQx hL (hin x hx) (AQ1 hlt hx) h1 h3
  exact ⟨y, s1', hy, h5, x, s2, hx, h6, h4⟩
def A4 (n : Nat) (listed : Array Bool) : List Nat := (List.range n).filter fun i => !listed.getD i true
theorem ACB {n : Nat} {listed : Array Bool} {i : Nat} (hs : listed.size = n) (l1 l2 : List Nat) (h : A4 n listed = l1 ++ i :: l2) : A4 n (listed.setIfInBounds i true) = l1 ++ l2 := by
 have hnd : (A4 n listed).Nodup := List.Pairwise.filter _ List.nodup_range
 have hmem : i ∈ A4 n listed := by rw [h]; simp
 have hin : i < n := by
  unfold A4 at hmem
  simpa using (List.mem_filter.1 hmem).1
 have e : A4 n (listed.setIfInBounds i true) = (A4 n listed).filter fun j => decide (j ≠ i) := by
  unfold A4
  rw [List.filter_filter]
  apply List.filter_congr
  intro j hj
  have hjn : j < n := by simpa using hj
  by_cases hji : j = i
  ·subst hji
   simp [Array.getD_eq_getD_getElem?, hs, hjn]
  ·simp [Array.getD_eq_getD_getElem?, Array.getElem?_setIfInBounds_ne (Ne.symm hji), hji]
 rw [e, h]
 rw [h] at hnd
 rw [List.nodup_append] at hnd
 obtain ⟨_, hn2, hd⟩ := hnd
 rw [List.filter_append, List.filter_cons]
 simp only [ne_eq, not_true_eq_false, decide_false, Bool.false_eq_true, if_false]
 rw [List.filter_eq_self.2, List.filter_eq_self.2]
 ·intro j hj
  have : j ≠ i := by rintro rfl; exact (List.nodup_cons.1 hn2).1 hj
  simp [this]
 ·intro j hj
  have : j ≠ i := hd j hj i (by simp)
  simp [this]
theorem TA {n : Nat} {listed : Array Bool} {i : Nat} {l1 l2 : List Nat} (h : A4 n listed = l1 ++ i :: l2) : ∀ j ∈ l1, j < i := by
 have hp : (A4 n listed).Pairwise (· < ·) := List.Pairwise.filter _ List.pairwise_lt_range
 rw [h, List.pairwise_append] at hp
 intro j hj
 exact hp.2.2 j hj i (by simp)
def AO2 (ops : List Oper) (listed : Nat → Bool) : Prop := ∀ k z, ops[k]? = some z → listed k = true → ∀ e ∈ z.after.toList, Region.binds .any e = true → listed e.on = true
theorem ADI {ops : List Oper} {listed : Nat → Bool} (hc : AO2 ops listed) : ∀ (n : Nat) (y : Oper) (j : Nat), (∀ e ∈ y.after.toList, Region.binds .any e = true → listed e.on = true) → reach ops n y j = true → listed j = true := by
 intro n
 induction n with
 | zero => intro y j _ h; cases h
 | succ n ih =>
  intro y j hy h
  simp only [reach, Bool.or_eq_true] at h
  rcases h with h | h
  ·unfold AEx at h
   rw [List.any_eq_true] at h
   obtain ⟨e, he, hbe⟩ := h
   simp only [Bool.and_eq_true, decide_eq_true_eq] at hbe
   have := hy e he hbe.1
   rwa [hbe.2] at this
  ·rw [List.any_eq_true] at h
   obtain ⟨e, he, hbe⟩ := h
   simp only [Bool.and_eq_true] at hbe
   obtain ⟨h1, h2⟩ := hbe
   split at h2
   ·rename_i z hz
    exact ih z j (hc e.on z hz (hy e he h1)) h2
   ·cases h2
theorem ATK (hE : ∀ g, AR P g (E.spec g)) (hL : Hm E) {ops : Array Oper} {fp : Nat → List Nat} {base : Nat} {Q : Exit → Act → World → Prop} {st' : St}
  (hok : ∀ i y, ops.toList[i]? = some y → (∀ e ∈ y.after.toList, Region.binds .any e = true → e.on < i) ∧
   ∀ j x, j < i → ops.toList[j]? = some x → reach ops.toList 8 y j = true ∨ indep ops.toList x y (fp j) (fp i) (Bu ops.toList base j) (Bu ops.toList base i) = true) :
  ∀ (fuel : Nat) (listed : Array Bool) (st : St) (w : World) (F : Nat → Prop) (m : Mp) (a : Act), listed.size = ops.size → AO2 ops.toList (fun i => listed.getD i false) → (A4 ops.size listed).length ≤ fuel → SI w F m st a →
   AB3 P E ops.toList fp (Bu ops.toList base) (A4 ops.size listed) st st' →
   (∀ a' w' F' m', SI w' F' m' st' a' → Ext w F m st.heap st.frz w' F' m' st'.heap st'.frz → Q .normal a' w') → wpAny P .any ops Q fuel listed a w := by
 intro fuel
 have hdone : ∀ (listed : Array Bool) (st : St) (w : World) (F : Nat → Prop) (m : Mp) (a : Act), A4 ops.size listed = [] → SI w F m st a → AB3 P E ops.toList fp (Bu ops.toList base) (A4 ops.size listed) st st' →
   (∀ a' w' F' m', SI w' F' m' st' a' → Ext w F m st.heap st.frz w' F' m' st'.heap st'.frz → Q .normal a' w') → Q .normal a w := by
  intro listed st w F m a h0 hs hc hq
  rw [h0] at hc
  have hc : st = st' := hc
  subst hc
  exact hq a w F m hs (Ext.refl ..)
 have hready : ∀ (listed : Array Bool) (i : Nat), i ∈ Region.ready .any ops listed ↔ i ∈ A4 ops.size listed ∧ ((ops[i]?).map (·.after.all fun e => !Region.binds .any e || listed.getD e.on false)).getD false = true := by
  intro listed i
  unfold Region.ready A4
  simp only [List.mem_filter, Bool.and_eq_true, List.mem_range]
  exact ⟨fun ⟨h1, h2, h3⟩ => ⟨⟨h1, h2⟩, h3⟩, fun ⟨⟨h1, h2⟩, h3⟩ => ⟨h1, h2, h3⟩⟩
 induction fuel with
 | zero =>
  intro listed st w F m a hsz hcl hl hs hc hq
  have h0 : A4 ops.size listed = [] := List.eq_nil_of_length_eq_zero (by omega)
  refine ⟨List.eq_nil_iff_forall_not_mem.2 fun i hi => ?_, hdone listed st w F m a h0 hs hc hq⟩
  have := ((hready listed i).1 hi).1
  rw [h0] at this; cases this
 | succ fuel ih =>
  intro listed st w F m a hsz hcl hl hs hc hq
  refine ⟨fun hnil => ?_, fun i hi => ?_⟩
  ·refine hdone listed st w F m a ?_ hs hc hq
   cases hu : A4 ops.size listed with
   | nil => rfl
   | cons i l =>
    exfalso
    have hmem : i ∈ A4 ops.size listed := by rw [hu]; simp
    have hin : i < ops.size := by unfold A4 at hmem; simpa using (List.mem_filter.1 hmem).1
    have : i ∈ Region.ready .any ops listed := by
     refine (hready listed i).2 ⟨hmem, ?_⟩
     rw [Array.getElem?_eq_getElem hin]
     simp only [Option.map_some, Option.getD_some]
     rw [← Array.all_toList, List.all_eq_true]
     intro e he
     cases hb : Region.binds .any e with
     | false => rfl
     | true =>
      have hlt := (hok i ops[i] (by simp [hin])).1 e he hb
      simp only [Bool.not_true, Bool.false_or]
      cases hg : listed.getD e.on false with
      | true => rfl
      | false =>
       exfalso
       have hon : e.on < ops.size := by omega
       have : e.on ∈ A4 ops.size listed := by
        unfold A4
        rw [List.mem_filter]
        refine ⟨by simpa using hon, ?_⟩
        have hlt' : e.on < listed.size := by omega
        rw [Array.getD_eq_getD_getElem?, Array.getElem?_eq_getElem hlt'] at hg ⊢
        simpa using hg
       rw [hu] at this
       have hp : (A4 ops.size listed).Pairwise (· < ·) := List.Pairwise.filter _ List.pairwise_lt_range
       rw [hu, List.pairwise_cons] at hp
       rcases List.mem_cons.1 this with h | h
       ·omega
       ·have := hp.1 _ h; omega
    rw [hnil] at this; cases this
  ·obtain ⟨hmem, hrd⟩ := (hready listed i).1 hi
   have hin : i < ops.size := by unfold A4 at hmem; simpa using (List.mem_filter.1 hmem).1
   obtain ⟨l1, l2, hsplit⟩ := List.append_of_mem hmem
   have hgi : ops[i]? = some ops[i] := Array.getElem?_eq_getElem hin
   have hgl : ops.toList[i]? = some ops[i] := by simp [hin]
   rw [hgi] at hrd
   simp only [Option.map_some, Option.getD_some] at hrd
   rw [← Array.all_toList, List.all_eq_true] at hrd
   rw [hsplit] at hc
   obtain ⟨y, s1, hy, h1, h2⟩ := AJ7 hL hgl l1 l2 st st' (fun j hj => by
    have hji := TA hsplit j hj
    refine ⟨hji, fun x hx => ?_⟩
    rcases (hok i _ hgl).2 j x hji hx with h | h
    ·exfalso
     have hall : ∀ e ∈ (ops[i]).after.toList, Region.binds .any e = true → (fun i => listed.getD i false) e.on = true := by
      intro e he hb
      have := hrd e he
      rw [hb] at this
      simpa using this
     have this := ADI hcl 8 _ j hall h
     have hju : j ∈ A4 ops.size listed := by rw [hsplit]; simp [hj]
     unfold A4 at hju
     have h3 := (List.mem_filter.1 hju).2
     have hjl : j < listed.size := by omega
     rw [Array.getD_eq_getD_getElem?, Array.getElem?_eq_getElem hjl] at this h3
     simp only [Option.getD_some] at this h3
     rw [this] at h3; cases h3
    ·exact h) hc
   rw [hgl] at hy; cases hy
   have hnext := ACB hsz l1 l2 hsplit
   have hlen : (A4 ops.size (listed.setIfInBounds i true)).length ≤ fuel := by
    rw [hnext]
    rw [hsplit] at hl
    simp only [List.length_append, List.length_cons] at hl ⊢
    omega
   have hcl2 : AO2 ops.toList (fun k => (listed.setIfInBounds i true).getD k false) := by
    have hset : ∀ k, (listed.setIfInBounds i true).getD k false = true ↔ (k = i ∨ listed.getD k false = true) := by
     intro k
     have hil : i < listed.size := by omega
     rw [Array.getD_eq_getD_getElem?, Array.getD_eq_getD_getElem?, Array.getElem?_setIfInBounds]
     by_cases hki : i = k
     ·subst hki; simp [hil]
     ·simp [hki, Ne.symm hki]
    intro k z hz hk e he hb
    simp only [hset] at hk ⊢
    right
    rcases hk with rfl | hk
    ·rw [hgl] at hz; cases hz
     have := hrd e he
     rw [hb] at this
     simpa using this
    ·exact hcl k z hz hk e he hb
   unfold wpOp
   rw [hgi]
   simp only
   rcases h1 with ⟨hg, v, e, _, b3, rfl⟩ | ⟨hg, rfl⟩
   ·have hw : Region.wanted ops[i] (yielded ops a.tmps) = true := by
     unfold Bx at hg
     unfold Region.wanted
     cases hgd : ops[i].guard with
     | none => rfl
     | some p =>
      obtain ⟨j, want⟩ := p
      rw [hgd] at hg
      dsimp only at hg ⊢
      cases hj : (ops.toList[j]?).bind (·.dst) with
      | none => rw [hj] at hg; cases hg
      | some d =>
       rw [hj] at hg
       dsimp only at hg
       split at hg
       ·rename_i b hd
        rw [MC hs hj hd]
        simpa using hg
       ·simp at hg
       ·cases hg
    rw [if_pos hw]
    left
    obtain ⟨v', e', c1, _, c3⟩ := IP hE ops[i].op (AV × Eff) ops[i].type (BH st.tmps) st.heap st.frz (Bu ops.toList base i) (fun v e => some (v, e)) (v, e) (b3 _ _)
    simp only [Option.some.injEq, Prod.mk.injEq] at c1
    obtain ⟨rfl, rfl⟩ := c1
    refine c3 w F m a ops[i] _ Q rfl rfl hs.heap (fun x => X2 hs.tmps x) fun u w' F' m' hgo hr => ?_
    have hs2 := (hs.go hgo).put hr ops[i].dst
    refine ih _ _ w' F' m' _ (by simp [hsz]) hcl2 hlen hs2 (by rw [hnext]; exact h2) fun a' w2 F2 m2 q1 q2 => hq a' w2 F2 m2 q1 ?_
    have hh : ((st.app e').put ops[i].dst v').heap = De e' st.heap ∧ ((st.app e').put ops[i].dst v').frz = JH e' st.frz := by cases ops[i].dst <;> exact ⟨rfl, rfl⟩
    rw [hh.1, hh.2] at q2
    exact hgo.1.trans q2
   ·have hw : Region.wanted ops[i] (yielded ops a.tmps) = false := by
     unfold Bx at hg
     unfold Region.wanted
     cases hgd : ops[i].guard with
     | none => rw [hgd] at hg; cases hg
     | some p =>
      obtain ⟨j, want⟩ := p
      rw [hgd] at hg
      dsimp only at hg ⊢
      cases hj : (ops.toList[j]?).bind (·.dst) with
      | none => rw [hj] at hg; cases hg
      | some d =>
       rw [hj] at hg
       dsimp only at hg
       split at hg
       ·rename_i b hd
        rw [MC hs hj hd]
        simpa using hg
       ·rename_i hd
        rw [NL hs hj hd]
        rfl
       ·cases hg
    rw [if_neg (by simp [hw])]
    have hs2 : SI w F m (st.put ops[i].dst BG) (a.put ops[i].dst undef) := hs.put AGg ops[i].dst
    refine ih _ _ w F m _ (by simp [hsz]) hcl2 hlen hs2 (by rw [hnext]; exact h2) fun a' w2 F2 m2 q1 q2 => hq a' w2 F2 m2 q1 ?_
    have hh : (st.put ops[i].dst BG).heap = st.heap ∧ (st.put ops[i].dst BG).frz = st.frz := by cases ops[i].dst <;> exact ⟨rfl, rfl⟩
    rw [hh.1, hh.2] at q2
    exact q2
theorem SI.drew {w : World} {F : Nat → Prop} {m : Mp} {st : St} {a : Act} (h : SI w F m st a) : SI w.drew F m st a ∧ Ext w F m st.heap st.frz w.drew F m st.heap st.frz := by
 have hg := Av.drew h.heap
 exact ⟨⟨fun t => hg.1.rep h.heap (h.tmps t), h.size, hg.2, h.defers⟩, hg.1⟩
theorem Zj (hE : ∀ g, AR P g (E.spec g)) (hL : Hm E) {R : Type} {r : R} {id : Nat} {fp : List (List Nat)} {ops : Array Oper} {Q : Exit → Act → World → Prop} {k : St → Option R} {st : St} {w : World} {F : Nat → Prop} {m : Mp} {a : Act}
  (h : Dt P E R fp ops.toList st k = some r) (hs : SI w F m st a) (hq : ∀ a' w', AZl r k w F m st.heap st.frz a' w' → Q .normal a' w') : (Code.region id ops true).wp P Q a w := by
 unfold Dt at h
 split at h
 ·rename_i hok
  simp only [Bool.and_eq_true] at hok
  obtain ⟨hm, hok⟩ := hok
  obtain ⟨hs1, he1⟩ := hs.drew
  obtain ⟨hs2, he2⟩ := hs1.pad (EP ops.toList)
  have hnn : ops.toList = [] ++ ops.toList := by simp
  obtain ⟨st', hc, hk⟩ := Zk hE (all := ops.toList) (fp := fp) (base := st.heap.length) ops.toList [] fp st.heap.length _ hnn rfl (by simp [Bu, EP]) h
  refine wp_region_any hm ?_
  have hu : A4 ops.size (Array.replicate ops.size false) = List.range' 0 ops.toList.length := by
   unfold A4
   rw [Array.length_toList, ← List.range_eq_range']
   rw [List.filter_eq_self]
   intro i hi
   have : i < ops.size := by simpa using hi
   simp [Array.getD_eq_getD_getElem?, this]
  refine ATK (ops := ops) hE hL (fp := fun i => fp.getD i []) (base := st.heap.length) (st' := st') (fun i y hy => ADx (all := ops.toList) ops.toList [] fp _ [] hnn rfl (by simp [Bu, EP]) (fun j x hj => by simp at hj) hok i y (Nat.zero_le _) hy)
   ops.size _ _ w.drew F m a (by simp) (fun k z _ hk => by
    exfalso
    have hk : (Array.replicate ops.size false).getD k false = true := hk
    rw [Array.getD_eq_getD_getElem?, Array.getElem?_replicate] at hk
    split at hk <;> cases hk) (by rw [hu]; simp) hs2 (by rw [hu]; exact hc) fun a' w' F' m' q1 q2 => hq a' w' ⟨st', F', m', hk, q1, he1.trans (he2.trans q2)⟩
 ·cases h
end
end Go.Pev
end
section
namespace Go.Pev
open Go.RowKit
def BM (w : World) (F : Nat → Prop) (m : Mp) (H : List Ob) (fz : List Bool) (m' : Mp) (H' : List Ob) (j : Nat) : Bnd → Prop
 | .none => m' j = none ∧ ((∃ T e, H'[j]? = some (.arr T e []) ∧ 0 < e.size) ∨ ∃ T t, H'[j]? = some (.prs T t []))
 | .whole id => m' j = m id ∧ ((∃ T t xs, H[id]? = some (.arr T t xs) ∧ H'[j]? = some (.arr T t xs) ∧ fz.getD id false = false) ∨
   (∃ k v es, H[id]? = some (.map k v es) ∧ H'[j]? = some (.map k v es)) ∨
   (∃ cs cs' b c vs T, H[id]? = some (.box cs) ∧ H'[j]? = some (.box cs') ∧ cs'.length = cs.length ∧ m id = some (b, c) ∧ w.heap[b]? = some (.cells vs T (0, 0)) ∧ AZ w F m' H' cs' vs.toList ∧ ∀ u ∈ vs.toList, u.oneCell' = true) ∨
   (∃ T tgt j0 is, H[id]? = some (.prs T tgt is) ∧ H'[j]? = some (.prs T j0 is) ∧ ObI w F m' H' (.prs T j0 is) (m id)))
 | .cut id => ∃ T t xs n, H[id]? = some (.arr T t xs) ∧ fz.getD id false = false ∧ H'[j]? = some (.arr T t (List.take (α := t.den) n xs)) ∧ (m' j = m id ∨ (m' j = none ∧ List.take (α := t.den) n xs = []))
structure Inv (w : World) (F : Nat → Prop) (m : Mp) (H : List Ob) (fz : List Bool) (bs : List Bnd) (m' : Mp) (E : St) (val : Nat → Value) : Prop where
 tmps : ∀ t, Rep w F m' E.heap (E.tmps.getD t .junk) (val t)
 lenH : E.heap.length = bs.length
 lenF : E.frz.length = E.heap.length
 frz : ∀ i, E.frz.getD i false = false
 ob : ∀ j b, bs[j]? = some b → BM w F m H fz m' E.heap j b
 inj : ∀ (i j : Nat) (b c : Bnd) (id : Nat), bs[i]? = some b → bs[j]? = some c → b.id? = some id → c.id? = some id → i = j
def AOp (w : World) (m : Mp) (H : List Ob) (bs : List Bnd) (val : Nat → Value) : Loc → Value → Prop
 | .tmp t, u => u = val t
 | .cell j c, u => ∃ id b cc vs T cs, bs[j]? = some (.whole id) ∧ H[id]? = some (.box cs) ∧ m id = some (b, cc) ∧ w.heap[b]? = some (.cells vs T (0, 0)) ∧ vs.toList[c]? = some u
 | _, _ => True
theorem AW0 {w : World} {F : Nat → Prop} {m : Mp} {H : List Ob} {cs : List AV} {us : List Value} {c : Nat} {v : AV} {u : Value} (h : AZ w F m H cs us) (hu : us[c]? = some u) (hv : Rep w F m H v u) : AZ w F m H (cs.set c v) us := by
 refine Cx (by simp [Ao h]) fun i x y hx hy => ?_
 by_cases hic : i = c
 ·subst hic
  rw [hu] at hy; cases hy
  have hl : i < cs.length := by
   rw [← Ao h]
   rcases Nat.lt_or_ge i us.length with h' | h'
   ·exact h'
   ·rw [List.getElem?_eq_none h'] at hu; cases hu
  rw [List.getElem?_set_self hl] at hx
  cases hx; exact hv
 ·rw [List.getElem?_set_ne (Ne.symm hic)] at hx
  obtain ⟨y', hy', hr⟩ := B5 h hx
  rw [hy] at hy'; cases hy'; exact hr
theorem ATz {w : World} {F : Nat → Prop} {m : Mp} {H : List Ob} {tm : List AV} {val : Nat → Value} (h : ∀ t, Rep w F m H (tm.getD t .junk) (val t)) {t : Nat} {v : AV} (hv : Rep w F m H v (val t)) : ∀ i, Rep w F m H ((tm.set t v).getD i .junk) (val i) := by
 intro i
 by_cases hit : i = t
 ·subst hit
  by_cases hl : i < tm.length
  ·simp [hl, hv]
  ·rw [List.set_eq_of_length_le (by omega)]; exact h i
 ·have := h i
  rw [List.getD_eq_getElem?_getD] at this ⊢
  rw [List.getElem?_set_ne (Ne.symm hit)]
  exact this
theorem AG8 {w : World} {F F2 : Nat → Prop} {m m2 : Mp} {H H2 : List Ob} {T : TypeId} {j : Nat} {is : List Int} {l : Option (Nat × Nat)} (h3 : ∀ {cs us}, AZ w F m H cs us → AZ w F2 m2 H2 cs us) (h : ObI w F m H (.prs T j is) l) : ObI w F2 m2 H2 (.prs T j is) l := by
 cases l with
 | none => exact h
 | some p =>
  obtain ⟨b, cap⟩ := p
  obtain ⟨vs, us, e1, e2, e3, e4, e5, e6⟩ := h
  exact ⟨vs, us, e1, e2, e3, e4, h3 e5, e6⟩
section
variable {w : World} {F : Nat → Prop} {m : Mp} {H : List Ob} {fz : List Bool} {bs : List Bnd} {m' : Mp} {E : St} {val : Nat → Value}
theorem BM.mono {b : Bnd} {m'' : Mp} {H' H'' : List Ob} {j : Nat} (h : BM w F m H fz m' H' j b) (h1 : H''[j]? = H'[j]?) (h2 : m'' j = m' j) (h3 : ∀ {cs us}, AZ w F m' H' cs us → AZ w F m'' H'' cs us) : BM w F m H fz m'' H'' j b := by
 cases b with
 | none => simp only [BM] at *; rw [h1, h2]; exact h
 | whole id =>
  simp only [BM] at *
  rw [h1, h2]
  obtain ⟨e, h⟩ := h
  refine ⟨e, ?_⟩
  rcases h with h | h | ⟨cs, cs', b, c, vs, T, a1, a2, a3, a4, a5, a6, a7⟩ | ⟨T, tgt, j0, is, a1, a2, a3⟩
  ·exact .inl h
  ·exact .inr (.inl h)
  ·exact .inr (.inr (.inl ⟨cs, cs', b, c, vs, T, a1, a2, a3, a4, a5, h3 a6, a7⟩))
  ·exact .inr (.inr (.inr ⟨T, tgt, j0, is, a1, a2, AG8 h3 a3⟩))
 | cut id => simp only [BM] at *; rw [h1, h2]; exact h
theorem Inv.place (h : Inv w F m H fz bs m' E val) {l : Loc} {u : Value} {v : AV} (hl : AOp w m H bs val l u) (hv : Rep w F m' E.heap v u) : Inv w F m H fz bs m' (Pev.place E v l) val := by
 cases l with
 | tmp t =>
  have hl : u = val t := hl
  subst hl
  exact ⟨ATz h.tmps hv, h.lenH, h.lenF, h.frz, h.ob, h.inj⟩
 | cap t i => exact h
 | obj j => exact h
 | cell j c =>
  obtain ⟨id, b, cc, vs, T, cs, hj, hb, hm, hw, hu⟩ := hl
  have hbd := h.ob j _ hj
  simp only [BM] at hbd
  obtain ⟨hm', hbd⟩ := hbd
  rw [hb] at hbd
  rcases hbd with ⟨_, _, _, hx, _⟩ | ⟨_, _, _, hx, _⟩ | ⟨cs0, cs', b0, c0, vs0, T0, hx, h1, h2, h3, h4, h5, h6⟩ | ⟨_, _, _, _, hx, _⟩
  ·cases hx
  ·cases hx
  rotate_left
  ·cases hx
  ·cases hx
   rw [hm] at h3; cases h3
   rw [hw] at h4; cases h4
   have hlt := As h1
   have hcomp : Co E.heap (E.heap.set j (.box (cs'.set c v))) m' m' := by
    intro i o hi hf
    by_cases hij : i = j
    ·subst hij
     rw [h1] at hi; cases hi
     exact .inr ⟨by simp, _, BP hlt, trivial, rfl⟩
    ·rcases Co.refl E.heap m' i o hi hf with h | ⟨hd, o', h4, h5, _⟩
     ·exact .inl (by rw [Ay hij]; exact h)
     ·exact .inr ⟨hd, o', by rw [Ay hij]; exact h4, h5, rfl⟩
   have mono : ∀ {a u}, Rep w F m' E.heap a u → Rep w F m' (E.heap.set j (.box (cs'.set c v))) a u := fun h => Rep.mono (fun _ _ => rfl) (fun _ h => h) hcomp _ h
   have monoL : ∀ {a u}, AZ w F m' E.heap a u → AZ w F m' (E.heap.set j (.box (cs'.set c v))) a u := fun h => AZ.mono (fun _ _ => rfl) (fun _ h => h) hcomp _ h
   unfold Pev.place
   simp only [h1]
   refine ⟨fun t => mono (h.tmps t), by simp [h.lenH], by simp [h.lenF], h.frz, fun i x hi => ?_, h.inj⟩
   by_cases hij : i = j
   ·subst hij
    rw [hj] at hi; cases hi
    simp only [BM]
    exact ⟨hm', .inr (.inr (.inl ⟨cs, _, b, cc, vs, T, hb, BP hlt, by simp [h2], hm, hw, monoL (AW0 h5 hu hv), h6⟩))⟩
   ·exact (h.ob i x hi).mono (Ay hij) rfl monoL
theorem T2 {α : Type} {l : List α} {x y : α} {j : Nat} (h : (l ++ [x])[j]? = some y) : (j < l.length ∧ l[j]? = some y) ∨ (j = l.length ∧ y = x) := by
 rcases Nat.lt_trichotomy j l.length with hj | hj | hj
 ·rw [List.getElem?_append_left hj] at h; exact .inl ⟨hj, h⟩
 ·subst hj; simp at h; exact .inr ⟨rfl, h.symm⟩
 ·rw [List.getElem?_eq_none (by simp; omega)] at h; cases h
theorem Inv.add (h : Inv w F m H fz bs m' E val) {b : Bnd} {o : Ob} {l : Option (Nat × Nat)} (hid : ∀ (i : Nat) (c : Bnd) (id : Nat), bs[i]? = some c → c.id? = some id → b.id? ≠ some id)
  (hbd : BM w F m H fz (upd m' E.heap.length l) (E.heap ++ [o]) E.heap.length b) : Inv w F m H fz (bs ++ [b]) (upd m' E.heap.length l) (IZ E o) val := by
 have hcomp : Co E.heap (E.heap ++ [o]) m' (upd m' E.heap.length l) := by
  intro i x hi hf
  have hlt := As hi
  rcases Co.refl E.heap m' i x hi hf with h | ⟨hd, o', h4, h5, _⟩
  ·exact .inl (by rw [List.getElem?_append_left hlt]; exact h)
  ·exact .inr ⟨hd, o', by rw [List.getElem?_append_left hlt]; exact h4, h5, BN (by omega)⟩
 have monoL : ∀ {a u}, AZ w F m' E.heap a u → AZ w F (upd m' E.heap.length l) (E.heap ++ [o]) a u := fun h => AZ.mono (fun _ _ => rfl) (fun _ h => h) hcomp _ h
 refine ⟨fun t => Rep.mono (fun _ _ => rfl) (fun _ h => h) hcomp _ (h.tmps t), by simp [IZ, h.lenH], by simp [IZ, h.lenF], fun i => ?_, fun j x hj => ?_, fun i j x y id hi hj hx hy => ?_⟩
 ·have := h.frz i
  simp only [IZ]
  rw [List.getD_eq_getElem?_getD] at this ⊢
  rcases Nat.lt_or_ge i E.frz.length with hl | hl
  ·rw [List.getElem?_append_left hl]; exact this
  ·rw [List.getElem?_append_right hl]
   cases hk : i - E.frz.length with
   | zero => simp
   | succ k => simp
 ·rcases T2 hj with ⟨hlt, hj1⟩ | ⟨hj1, rfl⟩
  ·rw [← h.lenH] at hlt
   exact (h.ob j x hj1).mono (List.getElem?_append_left hlt) (BN (by omega)) monoL
  ·rw [← h.lenH] at hj1
   rw [hj1]
   exact hbd
 ·rcases T2 hi with ⟨hlt, hi1⟩ | ⟨hi1, rfl⟩
  ·rcases T2 hj with ⟨hlt', hj1⟩ | ⟨hj1, rfl⟩
   ·exact h.inj i j x y id hi1 hj1 hx hy
   ·exact absurd hy (hid i x id hi1 hx)
  ·rcases T2 hj with ⟨hlt', hj1⟩ | ⟨hj1, rfl⟩
   ·exact absurd hx (hid j y id hj1 hy)
   ·omega
theorem IM {id : Nat} (h : fresh? bs id = true) : ∀ (i : Nat) (c : Bnd), bs[i]? = some c → c.id? ≠ some id := by
 intro i c hi he
 unfold fresh? at h
 rw [List.all_eq_true] at h
 have := h c (List.mem_of_getElem? hi)
 cases c with
 | none => simp [Bnd.id?] at he
 | whole k => simp only [Bnd.id?, Option.some.injEq] at he; subst he; simp at this
 | cut k => simp only [Bnd.id?, Option.some.injEq] at he; subst he; simp at this
theorem Inv.freeze (h : Inv w F m H fz bs m' E val) {f : List Nat} (hf : f.all (fresh? bs) = true) : Inv w (DX F m H f) m H (Ai f fz) bs m' E val := by
 have monoL : ∀ {a u}, AZ w F m' E.heap a u → AZ w (DX F m H f) m' E.heap a u := fun h => AZ.mono (fun _ _ => rfl) (fun _ h => .inl h) (Co.refl _ _) _ h
 have hfz : ∀ (id i : Nat) (c : Bnd), bs[i]? = some c → c.id? = some id → fz.getD id false = false → (Ai f fz).getD id false = false := by
  intro id i c hi hc h0
  rw [A0, h0]
  have : id ∉ f := fun hid => by
   rw [List.all_eq_true] at hf
   exact IM (hf id hid) i c hi hc
  simp [this]
 refine ⟨fun t => Rep.mono (fun _ _ => rfl) (fun _ h => .inl h) (Co.refl _ _) _ (h.tmps t), h.lenH, h.lenF, h.frz, fun j b hj => ?_, h.inj⟩
 have := h.ob j b hj
 cases b with
 | none => exact this
 | whole id =>
  simp only [BM] at *
  obtain ⟨e, this⟩ := this
  refine ⟨e, ?_⟩
  rcases this with ⟨T, t, xs, a1, a2, a3⟩ | h1 | ⟨cs, cs', b, c, vs, T, a1, a2, a3, a4, a5, a6, a7⟩ | ⟨T, tgt, j0, is, a1, a2, a3⟩
  ·exact .inl ⟨T, t, xs, a1, a2, hfz id j _ hj rfl a3⟩
  ·exact .inr (.inl h1)
  ·exact .inr (.inr (.inl ⟨cs, cs', b, c, vs, T, a1, a2, a3, a4, a5, monoL a6, a7⟩))
  ·exact .inr (.inr (.inr ⟨T, tgt, j0, is, a1, a2, AG8 monoL a3⟩))
 | cut id =>
  simp only [BM] at *
  obtain ⟨T, t, xs, n, a1, a2, a3⟩ := this
  exact ⟨T, t, xs, n, a1, hfz id j _ hj rfl a2, a3⟩
theorem AUe {j id off : Nat} {u : Value} (hb : BM w F m H fz m' E.heap j (.whole id)) (hu : Rep w F m H (.ptr id off) u) : Rep w F m' E.heap (.ptr j off) u := by
 simp only [BM] at hb
 obtain ⟨e, hb⟩ := hb
 unfold Rep at *
 unfold Fv at *
 rcases hb with ⟨T, t, xs, a1, _⟩ | ⟨k, v, es, a1, _⟩ | ⟨cs, cs', b, c, vs, T, a1, a2, _, a4, _⟩ | ⟨_, _, _, _, a1, _⟩
 ·rw [a1] at hu; exact hu.elim
 ·rw [a1] at hu; exact hu.elim
 ·rw [a1] at hu
  rw [a2, e]
  exact hu
 ·rw [a1] at hu; exact hu.elim
theorem AYY {j id i sub : Nat} {u : Value} (hb : BM w F m H fz m' E.heap j (.whole id)) (hu : Rep w F m H (.eptr id i sub) u) : Rep w F m' E.heap (.eptr j i sub) u := by
 simp only [BM] at hb
 obtain ⟨e, hb⟩ := hb
 unfold Rep at *
 unfold DS at *
 rcases hb with ⟨T, t, xs, a1, a2, _⟩ | ⟨k, v, es, a1, _⟩ | ⟨cs, cs', b, c, vs, T, a1, a2, _, a4, _⟩ | ⟨_, _, _, _, a1, a2, _⟩
 ·rw [a1] at hu
  rw [a2, e]
  exact hu
 ·rw [a1] at hu; exact hu.elim
 ·rw [a1] at hu; exact hu.elim
 ·rw [a1] at hu
  rw [a2, e]
  exact hu
theorem AXa {j id : Nat} {is : List Int} {us : List Value} (hb : BM w F m H fz m' E.heap j (.whole id)) (hu : AZ w F m H (Ei id is) us) : AZ w F m' E.heap (Ei j is) us := by
 refine Cx (by have := Ao hu; simpa [Ei] using this) fun i c v hc hv => ?_
 rw [Ei, List.getElem?_map, Option.map_eq_some_iff] at hc
 obtain ⟨x, hx, rfl⟩ := hc
 obtain ⟨v', hv', hr⟩ := B5 hu (i := i) (c := .eptr id x.toNat 0) (by rw [Ei, List.getElem?_map, hx]; rfl)
 rw [hv] at hv'; cases hv'
 exact AYY hb hr
theorem AZs {j id : Nat} {u : Value} (hb : BM w F m H fz m' E.heap j (.whole id)) (hu : Rep w F m H (.mp id) u) : Rep w F m' E.heap (.mp j) u := by
 simp only [BM] at hb
 obtain ⟨e, hb⟩ := hb
 unfold Rep at *
 unfold L7 at *
 rcases hb with ⟨T, t, xs, a1, _⟩ | ⟨k, v, es, a1, a2⟩ | ⟨cs, cs', b, c, vs, T, a1, a2, _, a4, _⟩ | ⟨_, _, _, _, a1, _⟩
 ·rw [a1] at hu; exact hu.elim
 ·rw [a1] at hu
  rw [a2, e]
  exact hu
 ·rw [a1] at hu; exact hu.elim
 ·rw [a1] at hu; exact hu.elim
theorem AVD {j id : Nat} {u : Value} (hb : BM w F m H fz m' E.heap j (.whole id)) (hu : Rep w F m H (.own id) u) : Rep w F m' E.heap (.own j) u := by
 simp only [BM] at hb
 obtain ⟨e, hb⟩ := hb
 unfold Rep at *
 unfold Ba at *
 rcases hb with ⟨T, t, xs, a1, a2, _⟩ | ⟨k, v, es, a1, a2⟩ | ⟨cs, cs', b, c, vs, T, a1, a2, _, a4, _⟩ | ⟨_, _, _, _, a1, a2, _⟩
 ·rw [a1] at hu
  rw [a2, e]
  exact hu
 ·rw [a1] at hu; exact hu.elim
 ·rw [a1] at hu; exact hu.elim
 ·rw [a1] at hu
  rw [a2, e]
  exact hu
theorem AKU {j id off n : Nat} {u : Value} (hb : BM w F m H fz m' E.heap j (.whole id)) (hu : Rep w F m H (.win id off n) u) : Rep w F m' E.heap (.win j off n) u := by
 simp only [BM] at hb
 obtain ⟨e, hb⟩ := hb
 unfold Rep at *
 unfold Fu at *
 rcases hb with ⟨T, t, xs, a1, a2, _⟩ | ⟨k, v, es, a1, a2⟩ | ⟨cs, cs', b, c, vs, T, a1, a2, _, a4, _⟩ | ⟨_, _, _, _, a1, _⟩
 ·rw [a1] at hu
  rw [a2, e]
  exact hu
 ·rw [a1] at hu; exact hu.elim
 ·rw [a1] at hu; exact hu.elim
 ·rw [a1] at hu; exact hu.elim
theorem AXm {id : Nat} {u : Value} {T : TypeId} {t : Ty} {ys : List t.den} (hi : HI w F m H fz) (ho : H[id]? = some (.arr T t ys)) (hu : Rep w F m H (.own id) u) : Rep w F m H (.win id 0 ys.length) u := by
 unfold Rep at *
 unfold Ba at hu
 unfold Fu
 rw [ho] at hu ⊢
 simp only at hu ⊢
 refine ⟨by omega, ?_⟩
 cases hm : m id with
 | none =>
  rw [hm] at hu
  obtain ⟨a, rfl⟩ := hu
  obtain ⟨_, hob⟩ := hi.obj id _ ho
  rw [hm] at hob
  simp only at hob
  subst hob
  exact ⟨a, rfl⟩
 | some p =>
  obtain ⟨b, cap⟩ := p
  rw [hm] at hu
  simp only at hu
  subst hu
  exact ⟨some ⟨b, 0, none⟩, rfl, fun _ => by simp⟩
theorem Du {α : Type} {l : List α} {i : Nat} {o : α} (h : l[i]? = some o) : i < l.length := by
 rcases Nat.lt_or_ge i l.length with h' | h'
 ·exact h'
 ·rw [List.getElem?_eq_none h'] at h; cases h
theorem CA (hi : HI w F m H fz) {tm : List AV} (ht : ∀ t v, tm[t]? = some v → Rep w F m H v (val t)) {l : Loc} {v : AV} (h : look tm H bs l = some v) : ∃ u, Rep w F m H v u ∧ AOp w m H bs val l u := by
 cases l with
 | tmp t => exact ⟨val t, ht t v h, rfl⟩
 | cell j c =>
  simp only [look] at h
  split at h
  ·rename_i id hj
   split at h
   ·rename_i cs ho
    obtain ⟨b, cc, vs, T, h1, h2, h3, h4⟩ := hi.obj id _ ho
    obtain ⟨u, hu, hr⟩ := B5 h3 h
    exact ⟨u, hr, id, b, cc, vs, T, cs, hj, ho, h1, h2, hu⟩
   ·cases h
  ·cases h
 | cap t i =>
  simp only [look] at h
  split at h
  ·rename_i f cs hc
   have := ht t _ hc
   unfold Rep at this
   obtain ⟨us, _, hr⟩ := this
   obtain ⟨u, _, hu⟩ := B5 hr h
   exact ⟨u, hu, trivial⟩
  ·rename_i f cs hc
   have := ht t _ hc
   unfold Rep at this
   obtain ⟨us, _, hr⟩ := this
   obtain ⟨u, _, hu⟩ := B5 hr h
   exact ⟨u, hu, trivial⟩
  ·cases h
 | obj j =>
  simp only [look, AYx] at h
  split at h
  ·rename_i T t xs ho
   cases h
   have := hi.obj j _ ho
   obtain ⟨_, this⟩ := this
   cases hm : m j with
   | none =>
    refine ⟨.slice none 0 0, ?_, trivial⟩
    unfold Rep Ba; rw [ho, hm]; exact ⟨none, rfl⟩
   | some p =>
    obtain ⟨b, cap⟩ := p
    refine ⟨.slice (some ⟨b, 0, none⟩) (List.length (α := t.den) xs) cap, ?_, trivial⟩
    unfold Rep Ba; rw [ho, hm]
  ·rename_i cs ho
   cases h
   obtain ⟨b, c, vs, T, h1, _⟩ := hi.obj j _ ho
   refine ⟨.pointer (some ⟨b, 0, none⟩), ?_, trivial⟩
   unfold Rep Fv; rw [ho]; exact ⟨b, c, h1, rfl⟩
  ·rename_i k v es ho
   cases h
   obtain ⟨b, c, vs, T, h1, _⟩ := hi.obj j _ ho
   refine ⟨.map (some b), ?_, trivial⟩
   unfold Rep L7; rw [ho]; exact ⟨b, c, h1, rfl⟩
  ·rename_i T t is ho
   cases h
   cases hm : m j with
   | none =>
    refine ⟨.slice none 0 0, ?_, trivial⟩
    unfold Rep Ba; rw [ho, hm]; exact ⟨none, rfl⟩
   | some p =>
    obtain ⟨b, cap⟩ := p
    refine ⟨.slice (some ⟨b, 0, none⟩) is.length cap, ?_, trivial⟩
    unfold Rep Ba; rw [ho, hm]
  ·cases h
theorem AOp.app {l : Loc} {u : Value} (h : AOp w m H bs val l u) (b : Bnd) : AOp w m H (bs ++ [b]) val l u := by
 cases l with
 | tmp t => exact h
 | cap t i => trivial
 | obj j => trivial
 | cell j c =>
  obtain ⟨id, b1, cc, vs, T, cs, h1, h2⟩ := h
  exact ⟨id, b1, cc, vs, T, cs, by rw [List.getElem?_append_left (Du h1)]; exact h1, h2⟩
theorem AYf (hb : ∀ j b, bs[j]? = some b → BM w F m H fz m' E.heap j b) : ∀ (vs : List AV) (ps : List (Nat × Nat)) (us : List Value), ATE bs vs ps = true → AZ w F m H vs us → AZ w F m' E.heap (ps.map fun p => .ptr p.1 p.2) us := by
 intro vs
 induction vs with
 | nil =>
  intro ps us h hr
  cases ps with
  | nil => unfold AZ at *; exact hr
  | cons p ps => simp [ATE] at h
 | cons v vs ih =>
  intro ps us h hr
  cases ps with
  | nil => cases v <;> simp [ATE] at h
  | cons p ps =>
   obtain ⟨j, o'⟩ := p
   cases v <;> simp only [ATE] at h <;> try (cases h; done)
   rename_i id o
   simp only [Bool.and_eq_true] at h
   obtain ⟨h1, h2⟩ := h
   unfold AZ at hr
   obtain ⟨u, us', rfl, hu, hr⟩ := hr
   simp only [List.map_cons]
   unfold AZ
   refine ⟨u, us', rfl, ?_, ih ps us' h2 hr⟩
   split at h1
   ·rename_i id' hj
    simp only [Bool.and_eq_true, decide_eq_true_eq] at h1
    obtain ⟨rfl, rfl⟩ := h1
    exact AUe (hb j _ hj) hu
   ·cases h1
end
end Go.Pev
end
section
namespace Go.Pev
open Go.RowKit
theorem AK7 (f g : List Nat) : ∀ fz, Ai (f ++ g) fz = Ai g (Ai f fz) := by
 induction f with
 | nil => intro fz; rfl
 | cons a f ih => intro fz; simp only [List.cons_append, Ai]; exact ih _
section
variable {w : World} {H : List Ob} {m : Mp} {val : Nat → Value} {tm : List AV}
theorem EG {fz : List Bool} {id : Nat} (h : Aw fz id = true) : fz.getD id false = false := by
 unfold Aw at h; simpa using h
theorem AOB : ∀ (its : AE) (fz : List Bool) (bs : List Bnd) (F : Nat → Prop) (m' : Mp) (E : St) (d : CT (leaves its)) (bs' : List Bnd) (fr : List Nat),
  HI w F m H fz → (∀ t v, tm[t]? = some v → Rep w F m H v (val t)) → Inv w F m H fz bs m' E val → dec tm H its fz bs = some (d, bs', fr) →
  ∃ F2 m2, Av w F m H fz w F2 m H (Ai fr fz) ∧ Inv w F2 m H (Ai fr fz) bs' m2 (enc its d E) val ∧ ∃ r, bs' = bs ++ r := by
 intro its
 induction its with
 | nil =>
  intro fz bs F m' E d bs' fr hi ht hv h
  simp only [dec, Option.some.injEq] at h
  obtain ⟨rfl, rfl, rfl⟩ := h
  exact ⟨F, m', Av.refl hi, hv, [], by simp⟩
 | cons p r ih =>
  intro fz bs F m' E d bs' fr hi ht hv h
  obtain ⟨l, c⟩ := p
  have obj : ∀ (b : Bnd) (o : Ob) (lc : Option (Nat × Nat)) (ref : AV) (u : Value) (xs : CT (leaves r)) (g : List Nat), AOp w m H bs val l u → (∀ (i : Nat) (c : Bnd) (id : Nat), bs[i]? = some c → c.id? = some id → b.id? ≠ some id) →
    BM w F m H fz (upd m' E.heap.length lc) (E.heap ++ [o]) E.heap.length b → Rep w F (upd m' E.heap.length lc) (E.heap ++ [o]) ref u → dec tm H r fz (bs ++ [b]) = some (xs, bs', g) →
    ∃ F2 m2, Av w F m H fz w F2 m H (Ai g fz) ∧ Inv w F2 m H (Ai g fz) bs' m2 (enc r xs (place (IZ E o) ref l)) val ∧ ∃ r, bs' = bs ++ r := by
   intro b o lc ref u xs g hat hid hbd hrep hd
   have h1 := hv.add hid hbd
   have h2 := h1.place (hat.app b) hrep
   obtain ⟨F2, m2, a1, a2, rr, a3⟩ := ih fz (bs ++ [b]) F _ _ xs bs' g hi ht h2 hd
   exact ⟨F2, m2, a1, a2, b :: rr, by rw [a3]; simp⟩
  have ref : ∀ (v : AV) (u : Value) (xs : CT (leaves r)) (g : List Nat), AOp w m H bs val l u → Rep w F m' E.heap v u → dec tm H r fz bs = some (xs, bs', g) →
    ∃ F2 m2, Av w F m H fz w F2 m H (Ai g fz) ∧ Inv w F2 m H (Ai g fz) bs' m2 (enc r xs (place E v l)) val ∧ ∃ r, bs' = bs ++ r := by
   intro v u xs g hat hrep hd
   exact ih fz bs F _ _ xs bs' g hi ht (hv.place hat hrep) hd
  cases c with
  | dat t =>
   simp only [dec] at h
   split at h
   ·rename_i v hl
    split at h
    ·rename_i x f hx
     split at h
     ·rename_i hf
      split at h
      ·rename_i xs bs1 g hd
       simp only [Option.some.injEq] at h
       obtain ⟨rfl, rfl, rfl⟩ := h
       obtain ⟨u, hu, hat⟩ := CA hi ht hl
       have hdat := FM hi hx hu
       have hg := Av.freeze hi f
       have hv1 := hv.freeze hf
       have hv2 := hv1.place (v := .data t x) hat (by unfold Rep; exact hdat)
       obtain ⟨F2, m2, a1, a2, rr, a3⟩ := ih (Ai f fz) bs (DX F m H f) _ _ xs _ _ hg.2 (fun t v h => hg.1.rep hi (ht t v h)) hv2 hd
       rw [AK7]
       exact ⟨F2, m2, hg.trans a1, a2, rr, a3⟩
      ·cases h
     ·cases h
    ·cases h
   ·cases h
  | own T e =>
   simp only [dec] at h
   split at h
   ·rename_i e' hl
    split at h
    ·rename_i hc
     simp only [Bool.and_eq_true, decide_eq_true_eq] at hc
     obtain ⟨rfl, hsz⟩ := hc
     split at h
     ·rename_i xs bs1 g hd
      simp only [Option.some.injEq] at h
      obtain ⟨rfl, rfl, rfl⟩ := h
      obtain ⟨u, hu, hat⟩ := CA hi ht hl
      unfold Rep at hu
      refine obj .none (.arr T e' []) none (.own E.heap.length) u xs _ hat (fun _ _ _ _ _ => by simp [Bnd.id?]) ?_ ?_ hd
      ·simp only [BM]
       exact ⟨Ap .., .inl ⟨T, e', by simp, hsz⟩⟩
      ·unfold Rep Ba
       simp only [List.getElem?_append_right (Nat.le_refl _), Nat.sub_self, List.getElem?_cons_zero, Ap]
       exact ⟨_, hu⟩
     ·cases h
    ·cases h
   ·rename_i id hl
    split at h
    ·rename_i T' e' ys ho hfr
     simp only [Bool.and_eq_true] at hfr
     obtain ⟨hun, hfr⟩ := hfr
     split at h
     ·rename_i ys' hT hc
      simp only [decide_eq_true_eq] at hT
      subst hT
      obtain ⟨he, hy⟩ := E1 hc
      subst he
      simp only at hy
      subst hy
      split at h
      ·rename_i xs bs1 g hd
       simp only [Option.some.injEq] at h
       obtain ⟨rfl, rfl, rfl⟩ := h
       obtain ⟨u, hu, hat⟩ := CA hi ht hl
       refine obj (.whole id) (.arr T e' ys) (m id) (.own E.heap.length) u xs _ hat (fun i c id' hic hcid => ?_) ?_ ?_ hd
       ·rintro h; simp only [Bnd.id?, Option.some.injEq] at h; subst h; exact IM hfr i c hic hcid
       ·simp only [BM]
        exact ⟨Ap .., .inl ⟨T, e', ys, ho, by simp, EG hun⟩⟩
       ·unfold Rep at hu ⊢
        rw [ho] at hu
        rw [List.getElem?_append_right (Nat.le_refl _), Nat.sub_self, List.getElem?_cons_zero, Ap]
        exact hu
      ·cases h
     ·cases h
    ·cases h
   ·rename_i id n hl
    split at h
    ·rename_i T' e' ys ho hfr
     simp only [Bool.and_eq_true] at hfr
     obtain ⟨hun, hfr⟩ := hfr
     split at h
     ·rename_i ys' hT hc
      simp only [decide_eq_true_eq] at hT
      subst hT
      obtain ⟨he, hy⟩ := E1 hc
      subst he
      simp only at hy
      subst hy
      split at h
      ·rename_i xs bs1 g hd
       simp only [Option.some.injEq] at h
       obtain ⟨rfl, rfl, rfl⟩ := h
       obtain ⟨u, hu, hat⟩ := CA hi ht hl
       unfold Rep Fu at hu
       rw [ho] at hu
       obtain ⟨hle, hu⟩ := hu
       have hid : ∀ (i : Nat) (c : Bnd) (id' : Nat), bs[i]? = some c → c.id? = some id' → (Bnd.cut id).id? ≠ some id' := by
        intro i c id' hic hcid h; simp only [Bnd.id?, Option.some.injEq] at h; subst h; exact IM hfr i c hic hcid
       have hget : (E.heap ++ [Ob.arr T e' (Cv n ys)])[E.heap.length]? = some (Ob.arr T e' (Cv n ys)) := by simp
       obtain ⟨hsz, hob⟩ := hi.obj id _ ho
       have hnil : n = 0 → List.take (α := e'.den) n ys = [] := by rintro rfl; simp
       have hlen : List.length (α := e'.den) (Cv n ys) = n := by unfold Cv; rw [List.length_take]; omega
       cases hm : m id with
       | none =>
        rw [hm] at hob hu
        simp only at hob hu
        subst hob
        have h0 : n = 0 := by simpa using hle
        subst h0
        obtain ⟨a, rfl⟩ := hu
        refine obj (.cut id) (.arr T e' (Cv 0 [])) none (.own E.heap.length) _ xs _ hat hid ?_ ?_ hd
        ·simp only [BM]
         exact ⟨T, e', [], 0, ho, EG hun, hget, .inl (by rw [Ap, hm])⟩
        ·unfold Rep
         rw [hget, Ap]
         exact ⟨a, rfl⟩
       | some p =>
        obtain ⟨b, cap⟩ := p
        rw [hm] at hob hu
        obtain ⟨a, rfl, ha⟩ := hu
        obtain ⟨vs, row, o1, o2, o3, o4, o5, o6⟩ := hob
        by_cases hcap : cap = 0
        ·subst hcap
         have h0 : n = 0 := by omega
         refine obj (.cut id) (.arr T e' (Cv n ys)) none (.own E.heap.length) _ xs _ hat hid ?_ ?_ hd
         ·simp only [BM]
          exact ⟨T, e', ys, n, ho, EG hun, hget, .inr ⟨Ap .., hnil h0⟩⟩
         ·unfold Rep
          rw [hget, Ap]
          exact ⟨a, by rw [h0]⟩
        ·refine obj (.cut id) (.arr T e' (Cv n ys)) (m id) (.own E.heap.length) _ xs _ hat hid ?_ ?_ hd
         ·simp only [BM]
          exact ⟨T, e', ys, n, ho, EG hun, hget, .inl (Ap ..)⟩
         ·unfold Rep Ba
          rw [hget, Ap, hm]
          have := ha (by omega)
          rw [this]
          simp [hlen]
      ·cases h
     ·cases h
    ·cases h
   ·cases h
  | box n =>
   simp only [dec] at h
   split at h
   ·rename_i id hl
    split at h
    ·rename_i cs ho hfr
     split at h
     ·rename_i hn
      simp only [decide_eq_true_eq] at hn
      obtain ⟨u, hu, hat⟩ := CA hi ht hl
      obtain ⟨b, cc, vs, T, b1, b2, b3, b4⟩ := hi.obj id _ ho
      refine obj (.whole id) (.box (List.replicate n .junk)) (m id) (.ptr E.heap.length 0) u d fr hat (fun i c id' hic hcid => ?_) ?_ ?_ h
      ·rintro h; simp only [Bnd.id?, Option.some.injEq] at h; subst h; exact IM hfr i c hic hcid
      ·simp only [BM]
       refine ⟨Ap .., .inr (.inr (.inl ⟨cs, List.replicate n .junk, b, cc, vs, T, ho, by simp, by simp [hn], b1, b2, ?_, b4⟩))⟩
       refine Cx (by rw [Ao b3]; simp [hn]) fun i c v hc _ => ?_
       have := List.eq_of_mem_replicate (List.mem_of_getElem? hc)
       subst this
       unfold Rep; trivial
      ·unfold Rep Fv at hu ⊢
       rw [ho] at hu
       rw [List.getElem?_append_right (Nat.le_refl _), Nat.sub_self, List.getElem?_cons_zero, Ap]
       exact hu
     ·cases h
    ·cases h
   ·cases h
  | map k v =>
   simp only [dec] at h
   split at h
   ·rename_i id hl
    split at h
    ·rename_i k' v' es ho hfr
     split at h
     ·rename_i es' hc
      obtain ⟨he, hy⟩ := E1 hc
      cases he
      simp only at hy
      subst hy
      split at h
      ·rename_i xs bs1 g hd
       simp only [Option.some.injEq] at h
       obtain ⟨rfl, rfl, rfl⟩ := h
       obtain ⟨u, hu, hat⟩ := CA hi ht hl
       refine obj (.whole id) (.map k v es) (m id) (.mp E.heap.length) u xs _ hat (fun i c id' hic hcid => ?_) ?_ ?_ hd
       ·rintro h; simp only [Bnd.id?, Option.some.injEq] at h; subst h; exact IM hfr i c hic hcid
       ·simp only [BM]
        exact ⟨Ap .., .inr (.inl ⟨k, v, es, ho, by simp⟩)⟩
       ·unfold Rep L7 at hu ⊢
        rw [ho] at hu
        rw [List.getElem?_append_right (Nat.le_refl _), Nat.sub_self, List.getElem?_cons_zero, Ap]
        exact hu
      ·cases h
     ·cases h
    ·cases h
   ·cases h
  | own' j =>
   simp only [dec] at h
   split at h
   ·rename_i id id' hl hj
    split at h
    ·rename_i hid
     simp only [decide_eq_true_eq] at hid
     subst hid
     obtain ⟨u, hu, hat⟩ := CA hi ht hl
     exact ref (.own j) u d fr hat (AVD (hv.ob j _ hj) hu) h
    ·cases h
   ·cases h
  | ptr' j off =>
   simp only [dec] at h
   split at h
   ·rename_i id o id' hl hj
    split at h
    ·rename_i hid
     simp only [Bool.and_eq_true, decide_eq_true_eq] at hid
     obtain ⟨rfl, rfl⟩ := hid
     obtain ⟨u, hu, hat⟩ := CA hi ht hl
     exact ref (.ptr j o) u d fr hat (AUe (hv.ob j _ hj) hu) h
    ·cases h
   ·cases h
  | sub' j =>
   simp only [dec] at h
   split at h
   ·rename_i id off n id' hl hj
    split at h
    ·rename_i hid
     simp only [decide_eq_true_eq] at hid
     subst hid
     split at h
     ·rename_i xs bs1 g hd
      simp only [Option.some.injEq] at h
      obtain ⟨rfl, rfl, rfl⟩ := h
      obtain ⟨u, hu, hat⟩ := CA hi ht hl
      exact ref (.win j off n) u xs _ hat (AKU (hv.ob j _ hj) hu) hd
     ·cases h
    ·cases h
   ·cases h
  | win' j =>
   simp only [dec] at h
   split at h
   ·rename_i id n id' hl hj
    split at h
    ·rename_i hid
     simp only [decide_eq_true_eq] at hid
     subst hid
     split at h
     ·rename_i xs bs1 g hd
      simp only [Option.some.injEq] at h
      obtain ⟨rfl, rfl, rfl⟩ := h
      obtain ⟨u, hu, hat⟩ := CA hi ht hl
      exact ref (.win j 0 n) u xs _ hat (AKU (hv.ob j _ hj) hu) hd
     ·cases h
    ·cases h
   ·rename_i id id' hl hj
    split at h
    ·rename_i T t ys hid ho
     simp only [decide_eq_true_eq] at hid
     subst hid
     split at h
     ·rename_i xs bs1 g hd
      simp only [Option.some.injEq] at h
      obtain ⟨rfl, rfl, rfl⟩ := h
      obtain ⟨u, hu, hat⟩ := CA hi ht hl
      exact ref (.win j 0 ys.length) u xs _ hat (AKU (hv.ob j _ hj) (AXm hi ho hu)) hd
     ·cases h
    ·cases h
   ·cases h
  | map' j =>
   simp only [dec] at h
   split at h
   ·rename_i id id' hl hj
    split at h
    ·rename_i hid
     simp only [decide_eq_true_eq] at hid
     subst hid
     obtain ⟨u, hu, hat⟩ := CA hi ht hl
     exact ref (.mp j) u d fr hat (AZs (hv.ob j _ hj) hu) h
    ·cases h
   ·cases h
  | clo f ps =>
   simp only [dec] at h
   split at h
   ·rename_i f' vs hl
    split at h
    ·rename_i hc
     simp only [Bool.and_eq_true, decide_eq_true_eq] at hc
     obtain ⟨rfl, hc⟩ := hc
     obtain ⟨u, hu, hat⟩ := CA hi ht hl
     unfold Rep at hu
     obtain ⟨cs, rfl, hr⟩ := hu
     exact ref (.clo f (ps.map fun p => .ptr p.1 p.2)) _ d fr hat (by unfold Rep; exact ⟨cs, rfl, AYf hv.ob vs ps cs.toList hc hr⟩) h
    ·cases h
   ·cases h
  | bnd f j =>
   simp only [dec] at h
   split at h
   ·rename_i f' id id' hl hj
    split at h
    ·rename_i hc
     simp only [Bool.and_eq_true, decide_eq_true_eq] at hc
     obtain ⟨rfl, rfl⟩ := hc
     obtain ⟨u, hu, hat⟩ := CA hi ht hl
     unfold Rep at hu
     obtain ⟨cs, rfl, hr⟩ := hu
     refine ref (.bnd f [.own j]) _ d fr hat ?_ h
     unfold Rep
     refine ⟨cs, rfl, ?_⟩
     unfold AZ at hr ⊢
     obtain ⟨x, xs, e1, e2, e3⟩ := hr
     refine ⟨x, xs, e1, AVD (hv.ob j _ hj) e2, ?_⟩
     unfold AZ at e3 ⊢
     exact e3
    ·cases h
   ·cases h
  | prs T j =>
   simp only [dec] at h
   split at h
   ·rename_i e' hl
    split at h
    ·rename_i xs bs1 g hd
     simp only [Option.some.injEq] at h
     obtain ⟨rfl, rfl, rfl⟩ := h
     obtain ⟨u, hu, hat⟩ := CA hi ht hl
     unfold Rep at hu
     refine obj .none (.prs T j []) none (.own E.heap.length) u xs _ hat (fun _ _ _ _ _ => by simp [Bnd.id?]) ?_ ?_ hd
     ·simp only [BM]
      exact ⟨Ap .., .inr ⟨T, j, by simp⟩⟩
     ·unfold Rep Ba
      simp only [List.getElem?_append_right (Nat.le_refl _), Nat.sub_self, List.getElem?_cons_zero, Ap]
      exact ⟨_, hu⟩
    ·cases h
   ·rename_i id hl
    split at h
    ·rename_i T' tgt is tgt' ho hfr hj
     split at h
     ·rename_i hT
      simp only [Bool.and_eq_true, decide_eq_true_eq] at hT
      obtain ⟨rfl, rfl⟩ := hT
      split at h
      ·rename_i xs bs1 g hd
       simp only [Option.some.injEq] at h
       obtain ⟨rfl, rfl, rfl⟩ := h
       obtain ⟨u, hu, hat⟩ := CA hi ht hl
       have hbj := hv.ob j _ hj
       have hob := hi.obj id _ ho
       have hcomp : Co E.heap (E.heap ++ [.prs T j is]) m' (upd m' E.heap.length (m id)) := by
        intro i x hi hf
        have hlt := As hi
        rcases Co.refl E.heap m' i x hi hf with h | ⟨hd, o', h4, h5, _⟩
        ·exact .inl (by rw [List.getElem?_append_left hlt]; exact h)
        ·exact .inr ⟨hd, o', by rw [List.getElem?_append_left hlt]; exact h4, h5, BN (by omega)⟩
       have hob' : ObI w F (upd m' E.heap.length (m id)) (E.heap ++ [.prs T j is]) (.prs T j is) (m id) := by
        cases hm : m id with
        | none => rw [hm] at hob; exact hob
        | some p =>
         obtain ⟨b, cap⟩ := p
         rw [hm] at hob hcomp
         obtain ⟨vs, us, e1, e2, e3, e4, e5, e6⟩ := hob
         exact ⟨vs, us, e1, e2, e3, e4, AZ.mono (fun _ _ => rfl) (fun _ h => h) hcomp _ (AXa hbj e5), e6⟩
       refine obj (.whole id) (.prs T j is) (m id) (.own E.heap.length) u xs _ hat (fun i c id' hic hcid => ?_) ?_ ?_ hd
       ·rintro h; simp only [Bnd.id?, Option.some.injEq] at h; subst h; exact IM hfr i c hic hcid
       ·simp only [BM]
        exact ⟨Ap .., .inr (.inr (.inr ⟨T, tgt, j, is, ho, by simp, hob'⟩))⟩
       ·unfold Rep at hu ⊢
        rw [ho] at hu
        rw [List.getElem?_append_right (Nat.le_refl _), Nat.sub_self, List.getElem?_cons_zero, Ap]
        exact hu
      ·cases h
     ·cases h
    ·cases h
   ·cases h
  | nil e =>
   simp only [dec] at h
   cases hl : look tm H bs l with
   | none => rw [hl] at h; cases h
   | some v =>
    rw [hl] at h
    cases v with
    | nils e' =>
     obtain ⟨u, hu, hat⟩ := CA hi ht hl
     exact ref (.nils e) u d fr hat (by unfold Rep at *; exact hu) h
    | _ => cases h
end
end Go.Pev
end
