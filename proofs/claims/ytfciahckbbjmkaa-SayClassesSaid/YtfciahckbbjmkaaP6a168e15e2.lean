/- A part of the proofs of this seat: PevClone G27M1 G27M2 G27M Pln PlnB T18a T18b T18c KQ19a PlnM KQ19c. -/
import Derived.Test.YtfciahckbbjmkaaPac48b2097e
import Derived.Lib.SliceRun
import Derived.IntWalk
import Derived.Sort.AssemblyPlain
set_option linter.unusedVariables false
set_option linter.unusedSimpArgs false
set_option linter.unusedSectionVars false
section
namespace Go.Pev
open Go.RowKit
def cloneR {α : Type} (xs : List α) : Option (List α) := match fitsR (dlen xs) with
  | true => some xs
  | false => none
def opsAt : Code → Nat → List Oper
  | .region id ops _, n => if id = n then ops.toList else []
  | .seq a b, n => opsAt a n ++ opsAt b n
  | .cond _ a b, n => opsAt a n ++ opsAt b n
  | .block _ c, n => opsAt c n
  | .loop c, n => opsAt c n
  | _, _ => []
def opAt (fn : Func) (n i : Nat) : Oper := ((opsAt (bodyOf fn) n)[i]?).getD default
structure CloneShape (P : Program) (fn : Func) (T e : TypeId) (t : Ty) : Prop where
  body : fn.body = some (.seq (.region 0 #[opAt fn 0 0] false) (.seq (.seq (.region 1 #[opAt fn 1 0, opAt fn 1 1] false) (.cond (.tmp 4) (.seq (.region 2 #[opAt fn 2 0] false) .ret) .skip)) (.seq (.region 3 #[opAt fn 3 0, opAt fn 3 1, opAt fn 3 2, opAt fn 3 3] false) .ret)))
  nt : fn.ntmps = 8
  res : fn.results = #[.tmp 2]
  d : (opAt fn 0 0).dst = some 2 ∧ (opAt fn 1 0).dst = some 3 ∧ (opAt fn 1 1).dst = some 4 ∧ (opAt fn 2 0).dst = some 2 ∧ (opAt fn 3 0).dst = some 5 ∧ (opAt fn 3 1).dst = some 6 ∧ (opAt fn 3 2).dst = some 7 ∧ (opAt fn 3 3).dst = some 2
  g : (opAt fn 0 0).guard = none ∧ (opAt fn 1 0).guard = none ∧ (opAt fn 1 1).guard = none ∧ (opAt fn 2 0).guard = none ∧ (opAt fn 3 0).guard = none ∧ (opAt fn 3 1).guard = none ∧ (opAt fn 3 2).guard = none ∧ (opAt fn 3 3).guard = none
  o00 : (opAt fn 0 0).op = .assign (.const (.slice none 0 0))
  o10 : (opAt fn 1 0).op = .move (.tmp 0)
  o11 : (opAt fn 1 1).op = .binOp .eql T (.tmp 3) (.const (.slice none 0 0)) T
  o20 : (opAt fn 2 0).op = .assign (.const (.slice none 0 0))
  o30 : (opAt fn 3 0).op = .buildSlice T 0 #[]
  o31 : (opAt fn 3 1).op = .move (.tmp 0)
  o32 : (opAt fn 3 2).op = .call { callee := .builtin .append, args := #[.tmp 5, .tmp 6], argTypes := #[T, T] }
  o33 : (opAt fn 3 3).op = .assign (.tmp 7)
  sl : sliceAt P T = some (e, t)
  z : (zeroAt P e).isSome = true
  by1 : (P.info? e).map (fun i => decide (i.bytes ≤ 1024)) = some true
section
variable {P : Program} {g : FuncId}
variable {fn : Func} {T e : TypeId} {t : Ty}
end
end Go.Pev
end
section
namespace Go.Pev
set_option maxRecDepth 100000
noncomputable section
attribute [local irreducible] fitsR fitsIR idxR sublR iltR ileR ieqR quoR remR shlR shrR cloneR iterO many IntKind.wrap dlen dset dget dapp dtake dcut drep dnat dclear imin imax lookupM storeM
-- archipelago/archipelagoref01.Ints
abbrev ints01_i : Items := [(.tmp 0, .dat (.slice (.int .i64))), (.tmp 1, .dat (.slice (.int .i64)))]
abbrev ints01_o : Items := [(.tmp 0, .dat .bool)]
abbrev ints01_r : List RS := [.one]
abbrev ints01_i0 : Items := [(.tmp 0, .dat (.slice (.int .i64))), (.tmp 1, .dat (.slice (.int .i64))), (.tmp 5, .di)]
abbrev ints01_o0 : Outs := [(.ret, [(.tmp 4, .dat .bool)]), (.exit 0, [])]
def ints01_s0 [Lk] : (List Int × List Int × Int × Unit) → Option ((List Int × List Int × Int × Unit) ⊕ (Bool × Unit) ⊕ (Unit) ⊕ Unit) := fun (a0, a1, a2, _) =>
 match (ilt a2 (dlen a0)) with
 | true => match idx a0 a2 with
  | none => none
  | some x0 => match idx a1 a2 with
   | none => none
   | some x1 => match (!(ieq x0 x1)) with
    | true => some (.inr (.inl (false, ())))
    | false => some (.inl (a0, a1, (IntKind.wrap .i64 (a2 + 1)), ()))
 | false => some (.inr (.inr (.inl ())))
def ints01_d [Lk] : (List Int × List Int × Unit) → Option ((Bool × Unit)) := fun (a0, a1, _) =>
 match (!(ieq (dlen a0) (dlen a1))) with
 | true => some (false, ())
 | false => match iterL ints01_s0 many (a0, a1, 0, ()) with
  | none => none
  | some r => match r with
   | .inl (o0, _) => some (o0, ())
   | .inr r => match r with
    | .inl _ => some (true, ())
    | .inr _ => none
def ints01 [Lk] := fun v => Lk.f (ints01_d v)
theorem ints01_eq v : ints01 v = ints01_d v := lock_eq _
-- archipelago/archipelagolaw27.great
abbrev great27_i : Items := [(.tmp 0, .dat (.prod (.int .i64) (.prod (.slice (.prod (.int .i64) (.prod (.int .i64) (.prod (.int .i64) (.prod .bool .unit))))) .unit)))]
abbrev great27_o : Items := [(.tmp 0, .dat .bool)]
abbrev great27_r : List RS := [.one]
def great27_d [Lk] : ((Int × (List (Int × Int × Int × Bool × Unit)) × Unit) × Unit) → Option ((Bool × Unit)) := fun (a0, _) =>
 match (ilt 40 (dlen a0.2.1)) with
 | true => some (true, ())
 | false => some ((ilt 12 a0.1), ())
def great27 [Lk] := fun v => Lk.f (great27_d v)
theorem great27_eq v : great27 v = great27_d v := lock_eq _
-- archipelago/tour.sized
abbrev tsized_i : Items := [(.tmp 0, .di)]
abbrev tsized_o : Items := [(.tmp 0, .dat .bool)]
abbrev tsized_r : List RS := [.one]
def tsized_d [Lk] : (Int × Unit) → Option ((Bool × Unit)) := fun (a0, _) =>
 match (ile 1 a0) with
 | true => some ((ile a0 64), ())
 | false => some (false, ())
def tsized [Lk] := fun v => Lk.f (tsized_d v)
theorem tsized_eq v : tsized v = tsized_d v := lock_eq _
-- archipelago/tour.in
abbrev tin_i : Items := [(.tmp 0, .di), (.tmp 1, .di)]
abbrev tin_o : Items := [(.tmp 0, .dat .bool)]
abbrev tin_r : List RS := [.one]
def tin_d [Lk] : (Int × Int × Unit) → Option ((Bool × Unit)) := fun (a0, a1, _) =>
 match tsized (a0, ()) with
 | none => none
 | some (y0, _) => match y0 with
  | true => match (ile 0 a1) with
   | true => some ((ilt a1 a0), ())
   | false => some (false, ())
  | false => some (false, ())
def tin [Lk] := fun v => Lk.f (tin_d v)
theorem tin_eq v : tin v = tin_d v := lock_eq _
-- archipelago/tour.Arc
abbrev tarc_i : Items := [(.tmp 0, .di), (.tmp 1, .di), (.tmp 2, .di)]
abbrev tarc_o : Items := [(.tmp 0, .di)]
abbrev tarc_r : List RS := [.one]
def tarc_d [Lk] : (Int × Int × Int × Unit) → Option ((Int × Unit)) := fun (a0, a1, a2, _) =>
 match (ieq a1 a2) with
 | true => some ((-1 : Int), ())
 | false => match tin (a0, a1, ()) with
  | none => none
  | some (y0, _) => match (!y0) with
   | true => some ((-1 : Int), ())
   | false => match tin (a0, a2, ()) with
    | none => none
    | some (y1, _) => match (!y1) with
     | true => some ((-1 : Int), ())
     | false => some ((IntKind.wrap .i64 ((IntKind.wrap .i64 (a0 * (IntKind.wrap .i64 (a1 + 1)))) + a2)), ())
def tarc [Lk] := fun v => Lk.f (tarc_d v)
theorem tarc_eq v : tarc v = tarc_d v := lock_eq _
-- archipelago/tour.Token
abbrev ttoken_i : Items := [(.tmp 0, .di), (.tmp 1, .di)]
abbrev ttoken_o : Items := [(.tmp 0, .di), (.tmp 1, .di), (.tmp 2, .dat .bool), (.tmp 3, .dat .bool)]
abbrev ttoken_r : List RS := [.one, .one, .one, .one]
def ttoken_d [Lk] : (Int × Int × Unit) → Option ((Int × Int × Bool × Bool × Unit)) := fun (a0, a1, _) =>
 match tsized (a0, ()) with
 | none => none
 | some (y0, _) => match (!y0) with
  | true => some (0, 0, false, false, ())
  | false => match (ilt a1 0) with
   | true => some (0, 0, false, false, ())
   | false => match (ile (IntKind.wrap .i64 (a0 * (IntKind.wrap .i64 (a0 + 1)))) a1) with
    | true => some (0, 0, false, false, ())
    | false => match (ilt a1 a0) with
     | true => some (a1, 0, false, true, ())
     | false => match quo? .i64 a1 a0 with
      | none => none
      | some x1 => match rem? a1 a0 with
       | none => none
       | some x2 => match (ieq (IntKind.wrap .i64 (x1 - 1)) x2) with
        | true => some (0, 0, false, false, ())
        | false => some ((IntKind.wrap .i64 (x1 - 1)), x2, true, true, ())
def ttoken [Lk] := fun v => Lk.f (ttoken_d v)
theorem ttoken_eq v : ttoken v = ttoken_d v := lock_eq _
-- archipelago/tour.Make
abbrev tmake_i : Items := [(.tmp 0, .di)]
abbrev tmake_o : Items := [(.tmp 0, .di), (.tmp 1, .own 28 (.slice (.int .i64))), (.tmp 2, .di)]
abbrev tmake_r : List RS := [.agg 2, .one]
abbrev tmake_i0 : Items := [(.tmp 2, .box 2), (.cell 0 0, .di), (.cell 0 1, .nil (.slice (.int .i64))), (.tmp 4, .box 2), (.cell 1 0, .di), (.cell 1 1, .own 28 (.slice (.int .i64))), (.tmp 12, .di), (.tmp 13, .di)]
abbrev tmake_o0 : Outs := [(.exit 0, [(.tmp 2, .box 2), (.cell 0 0, .di), (.cell 0 1, .nil (.slice (.int .i64))), (.tmp 4, .box 2), (.cell 1 0, .di), (.cell 1 1, .own 28 (.slice (.int .i64)))])]
def tmake_s0 [Lk] : (Int × Int × List (List Int) × Int × Int × Unit) → Option ((Int × Int × List (List Int) × Int × Int × Unit) ⊕ (Int × Int × List (List Int) × Unit) ⊕ Unit) := fun (a0, a1, a2, a3, a4, _) =>
 match (ilt a4 a3) with
 | true => match (fits ((dlen a2) + (dlen ([([a4] : List (Int))] : List (List Int))))) with
  | true => some (.inl (a0, a1, (dapp a2 ([([a4] : List (Int))] : List (List Int))), a3, (IntKind.wrap .i64 (a4 + 1)), ()))
  | false => none
 | false => some (.inr (.inl (a0, a1, a2, ())))
def tmake_d [Lk] : (Int × Unit) → Option ((Int × List (List Int) × Int × Unit)) := fun (a0, _) =>
 match tsized (a0, ()) with
 | none => none
 | some (y0, _) => match (!y0) with
  | true => some (0, ([] : List (List Int)), 1, ())
  | false => match iterL tmake_s0 many (0, a0, ([] : List (List Int)), a0, 0, ()) with
   | none => none
   | some r => match r with
    | .inl (o1, o2, o3, _) => some (o2, o3, 0, ())
    | .inr _ => none
def tmake [Lk] := fun v => Lk.f (tmake_d v)
theorem tmake_eq v : tmake v = tmake_d v := lock_eq _
-- slices.Index[[]int,int]
abbrev indexI_i : Items := [(.tmp 0, .dat (.slice (.int .i64))), (.tmp 1, .di)]
abbrev indexI_o : Items := [(.tmp 0, .di)]
abbrev indexI_r : List RS := [.one]
abbrev indexI_i0 : Items := [(.tmp 0, .dat (.slice (.int .i64))), (.tmp 1, .di), (.tmp 7, .di), (.tmp 8, .di)]
abbrev indexI_o0 : Outs := [(.ret, [(.tmp 4, .di)]), (.exit 0, [])]
def indexI_s0 [Lk] : (List Int × Int × Int × Int × Unit) → Option ((List Int × Int × Int × Int × Unit) ⊕ (Int × Unit) ⊕ (Unit) ⊕ Unit) := fun (a0, a1, a2, a3, _) =>
 match (ilt a3 a2) with
 | true => match idx a0 a3 with
  | none => none
  | some x0 => match (ieq a1 x0) with
   | true => some (.inr (.inl (a3, ())))
   | false => some (.inl (a0, a1, a2, (IntKind.wrap .i64 (a3 + 1)), ()))
 | false => some (.inr (.inr (.inl ())))
def indexI_d [Lk] : (List Int × Int × Unit) → Option ((Int × Unit)) := fun (a0, a1, _) =>
 match iterL indexI_s0 many (a0, a1, (dlen a0), 0, ()) with
 | none => none
 | some r => match r with
  | .inl (o0, _) => some (o0, ())
  | .inr r => match r with
   | .inl _ => some ((-1 : Int), ())
   | .inr _ => none
def indexI [Lk] := fun v => Lk.f (indexI_d v)
theorem indexI_eq v : indexI v = indexI_d v := lock_eq _
-- slices.Contains[[]int,int]
abbrev containsI_i : Items := [(.tmp 0, .dat (.slice (.int .i64))), (.tmp 1, .di)]
abbrev containsI_o : Items := [(.tmp 0, .dat .bool)]
abbrev containsI_r : List RS := [.one]
def containsI_d [Lk] : (List Int × Int × Unit) → Option ((Bool × Unit)) := fun (a0, a1, _) =>
 match indexI (a0, a1, ()) with
 | none => none
 | some (y0, _) => some ((ile 0 y0), ())
def containsI [Lk] := fun v => Lk.f (containsI_d v)
theorem containsI_eq v : containsI v = containsI_d v := lock_eq _
-- slices.Min[[]int,int]
abbrev minI_i : Items := [(.tmp 0, .dat (.slice (.int .i64)))]
abbrev minI_o : Items := [(.tmp 0, .di)]
abbrev minI_r : List RS := [.one]
abbrev minI_i0 : Items := [(.tmp 0, .dat (.slice (.int .i64))), (.tmp 3, .di), (.tmp 4, .di)]
abbrev minI_o0 : Outs := [(.exit 0, [(.tmp 3, .di)])]
def minI_s0 [Lk] : (List Int × Int × Int × Unit) → Option ((List Int × Int × Int × Unit) ⊕ (Int × Unit) ⊕ Unit) := fun (a0, a1, a2, _) =>
 match (ilt a2 (dlen a0)) with
 | true => match idx a0 a2 with
  | none => none
  | some x0 => some (.inl (a0, (imin a1 x0), (IntKind.wrap .i64 (a2 + 1)), ()))
 | false => some (.inr (.inl (a1, ())))
def minI_d [Lk] : (List Int × Unit) → Option ((Int × Unit)) := fun (a0, _) =>
 match (ilt (dlen a0) 1) with
 | true => none
 | false => match idx a0 0 with
  | none => none
  | some x0 => match iterL minI_s0 many (a0, x0, 1, ()) with
   | none => none
   | some r => match r with
    | .inl (o1, _) => some (o1, ())
    | .inr _ => none
def minI [Lk] := fun v => Lk.f (minI_d v)
theorem minI_eq v : minI v = minI_d v := lock_eq _
-- slices.Grow[[]int,int]
abbrev growI_i : Items := [(.tmp 0, .nil (.int .i64)), (.tmp 1, .di)]
abbrev growI_o : Items := [(.tmp 0, .own 3 (.int .i64))]
abbrev growI_r : List RS := [.one]
def growI_d [Lk] : (Int × Unit) → Option ((List Int × Unit)) := fun (a0, _) =>
 match (ilt a0 0) with
 | true => none
 | false => match (ilt 0 (IntKind.wrap .i64 (a0 - (IntKind.wrap .i64 (0 - 0))))) with
  | true => match subl ([] : List Unit) 0 0 with
   | none => none
   | some _u0 => match (fitsI (IntKind.wrap .i64 (a0 - (IntKind.wrap .i64 (0 - 0))))) with
    | true => match subl (drep (dnat (IntKind.wrap .i64 (a0 - (IntKind.wrap .i64 ((0 : Int) - (0 : Int)))))) (0 : Int)) (0 : Int) (0 : Int) with
     | none => none
     | some x1 => some ((dtake (dnat (dlen x1)) (drep (dnat (IntKind.wrap .i64 (a0 - (IntKind.wrap .i64 ((0 : Int) - (0 : Int)))))) (0 : Int))), ())
    | false => none
  | false => some (([] : List (Int)), ())
def growI [Lk] := fun v => Lk.f (growI_d v)
theorem growI_eq v : growI v = growI_d v := lock_eq _
-- slices.Concat[[]int,int]
abbrev concatI_i : Items := [(.tmp 0, .dat (.slice (.slice (.int .i64))))]
abbrev concatI_o : Items := [(.tmp 0, .own 3 (.int .i64))]
abbrev concatI_r : List RS := [.one]
abbrev concatI_i1 : Items := [(.tmp 6, .own 3 (.int .i64)), (.tmp 25, .dat (.slice (.slice (.int .i64)))), (.tmp 26, .di), (.tmp 27, .di)]
abbrev concatI_o1 : Outs := [(.exit 2, [(.tmp 6, .own 3 (.int .i64))])]
def concatI_s1 [Lk] : (List Int × List (List Int) × Int × Int × Unit) → Option ((List Int × List (List Int) × Int × Int × Unit) ⊕ (List Int × Unit) ⊕ Unit) := fun (a0, a1, a2, a3, _) =>
 match (ilt a3 a2) with
 | true => match idx a1 a3 with
  | none => none
  | some x0 => match (fits ((dlen a0) + (dlen x0))) with
   | true => some (.inl ((dapp a0 x0), a1, a2, (IntKind.wrap .i64 (a3 + 1)), ()))
   | false => none
 | false => some (.inr (.inl (a0, ())))
abbrev concatI_i0 : Items := [(.tmp 0, .dat (.slice (.slice (.int .i64)))), (.tmp 3, .di), (.tmp 9, .dat (.slice (.slice (.int .i64)))), (.tmp 10, .di), (.tmp 11, .di)]
abbrev concatI_o0 : Outs := [(.exit 0, [(.tmp 0, .dat (.slice (.slice (.int .i64)))), (.tmp 3, .di)])]
def concatI_s0 [Lk] : (List (List Int) × Int × List (List Int) × Int × Int × Unit) → Option ((List (List Int) × Int × List (List Int) × Int × Int × Unit) ⊕ (List (List Int) × Int × Unit) ⊕ Unit) := fun (a0, a1, a2, a3, a4, _) =>
 match (ilt a4 a3) with
 | true => match idx a2 a4 with
  | none => none
  | some x0 => match (ilt (IntKind.wrap .i64 (a1 + (dlen x0))) 0) with
   | true => none
   | false => some (.inl (a0, (IntKind.wrap .i64 (a1 + (dlen x0))), a2, a3, (IntKind.wrap .i64 (a4 + 1)), ()))
 | false => some (.inr (.inl (a0, a1, ())))
def concatI_d [Lk] : (List (List Int) × Unit) → Option ((List Int × Unit)) := fun (a0, _) =>
 match iterL concatI_s0 many (a0, 0, a0, (dlen a0), 0, ()) with
 | none => none
 | some r => match r with
  | .inl (o0, o1, _) => match growI (o1, ()) with
   | none => none
   | some (y2, _) => match iterL concatI_s1 many (y2, o0, (dlen o0), 0, ()) with
    | none => none
    | some r => match r with
     | .inl (o3, _) => some (o3, ())
     | .inr _ => none
  | .inr _ => none
def concatI [Lk] := fun v => Lk.f (concatI_d v)
theorem concatI_eq v : concatI v = concatI_d v := lock_eq _
-- slices.IndexFunc[[]int,int]
abbrev idxFuncI_odd_i : Items := [(.tmp 0, .dat (.slice (.int .i64))), (.tmp 1, .clo 90 [])]
abbrev idxFuncI_odd_o : Items := [(.tmp 0, .di)]
abbrev idxFuncI_odd_r : List RS := [.one]
abbrev idxFuncI_odd_i0 : Items := [(.tmp 0, .dat (.slice (.int .i64))), (.tmp 1, .clo 90 []), (.tmp 7, .di), (.tmp 8, .di)]
abbrev idxFuncI_odd_o0 : Outs := [(.ret, [(.tmp 4, .di)]), (.exit 0, [])]
def idxFuncI_odd_s0 [Lk] : (List Int × Int × Int × Unit) → Option ((List Int × Int × Int × Unit) ⊕ (Int × Unit) ⊕ (Unit) ⊕ Unit) := fun (a0, a1, a2, _) =>
 match (ilt a2 a1) with
 | true => match idx a0 a2 with
  | none => none
  | some x0 => match (ilt x0 0) with
   | true => some (.inr (.inl (a2, ())))
   | false => match (ilt 10000 x0) with
    | true => some (.inr (.inl (a2, ())))
    | false => some (.inl (a0, a1, (IntKind.wrap .i64 (a2 + 1)), ()))
 | false => some (.inr (.inr (.inl ())))
def idxFuncI_odd_d [Lk] : (List Int × Unit) → Option ((Int × Unit)) := fun (a0, _) =>
 match iterL idxFuncI_odd_s0 many (a0, (dlen a0), 0, ()) with
 | none => none
 | some r => match r with
  | .inl (o0, _) => some (o0, ())
  | .inr r => match r with
   | .inl _ => some ((-1 : Int), ())
   | .inr _ => none
def idxFuncI_odd [Lk] := fun v => Lk.f (idxFuncI_odd_d v)
theorem idxFuncI_odd_eq v : idxFuncI_odd v = idxFuncI_odd_d v := lock_eq _
-- slices.ContainsFunc[[]int,int]
abbrev contFuncI_odd_i : Items := [(.tmp 0, .dat (.slice (.int .i64))), (.tmp 1, .clo 90 [])]
abbrev contFuncI_odd_o : Items := [(.tmp 0, .dat .bool)]
abbrev contFuncI_odd_r : List RS := [.one]
def contFuncI_odd_d [Lk] : (List Int × Unit) → Option ((Bool × Unit)) := fun (a0, _) =>
 match idxFuncI_odd (a0, ()) with
 | none => none
 | some (y0, _) => some ((ile 0 y0), ())
def contFuncI_odd [Lk] := fun v => Lk.f (contFuncI_odd_d v)
theorem contFuncI_odd_eq v : contFuncI_odd v = contFuncI_odd_d v := lock_eq _
-- archipelago/ring.once[int]
abbrev once_i : Items := [(.tmp 0, .dat (.slice (.int .i64)))]
abbrev once_o : Items := [(.tmp 0, .dat .bool)]
abbrev once_r : List RS := [.one]
abbrev once_i0 : Items := [(.tmp 0, .dat (.slice (.int .i64))), (.tmp 3, .map (.int .i64) (.int .i64)), (.tmp 7, .dat (.slice (.int .i64))), (.tmp 8, .di), (.tmp 9, .di)]
abbrev once_o0 : Outs := [(.exit 0, [(.tmp 0, .dat (.slice (.int .i64))), (.tmp 3, .map (.int .i64) (.int .i64))])]
def once_s0 [Lk] : (List Int × List (Int × Int) × List Int × Int × Int × Unit) → Option ((List Int × List (Int × Int) × List Int × Int × Int × Unit) ⊕ (List Int × List (Int × Int) × Unit) ⊕ Unit) := fun (a0, a1, a2, a3, a4, _) =>
 match (ilt a4 a3) with
 | true => match idx a2 a4 with
  | none => none
  | some x0 => some (.inl (a0, (storeM a1 x0 (IntKind.wrap .i64 (((lookupM a1 x0).getD 0) + 1))), a2, a3, (IntKind.wrap .i64 (a4 + 1)), ()))
 | false => some (.inr (.inl (a0, a1, ())))
def once_d [Lk] : (List Int × Unit) → Option ((Bool × Unit)) := fun (a0, _) =>
 match iterL once_s0 many (a0, ([] : List (Int × Int)), a0, (dlen a0), 0, ()) with
 | none => none
 | some r => match r with
  | .inl (o0, o1, _) => some ((ieq (dlen o1) (dlen o0)), ())
  | .inr _ => none
def once [Lk] := fun v => Lk.f (once_d v)
theorem once_eq v : once v = once_d v := lock_eq _
-- archipelago/ring.Right
abbrev rright_i : Items := [(.tmp 0, .dat (.slice (.int .i64)))]
abbrev rright_o : Items := [(.tmp 0, .dat .bool)]
abbrev rright_r : List RS := [.one]
def rright_d [Lk] : (List Int × Unit) → Option ((Bool × Unit)) := fun (a0, _) =>
 match (ilt 1000 (dlen a0)) with
 | true => some (false, ())
 | false => match contFuncI_odd (a0, ()) with
  | none => none
  | some (y0, _) => match (!y0) with
   | true => match once (a0, ()) with
    | none => none
    | some (y1, _) => some (y1, ())
   | false => some (false, ())
def rright [Lk] := fun v => Lk.f (rright_d v)
theorem rright_eq v : rright v = rright_d v := lock_eq _
-- archipelago/ring.turned
abbrev turned_i : Items := [(.tmp 0, .dat (.slice (.int .i64))), (.tmp 1, .di)]
abbrev turned_o : Items := [(.tmp 0, .own 3 (.int .i64))]
abbrev turned_r : List RS := [.one]
def turned_d [Lk] : (List Int × Int × Unit) → Option ((List Int × Unit)) := fun (a0, a1, _) =>
 match subl a0 a1 (dlen a0) with
 | none => none
 | some x0 => match subl a0 0 a1 with
  | none => none
  | some x1 => match concatI (([x0, x1] : List (List Int)), ()) with
   | none => none
   | some (y2, _) => some (y2, ())
def turned [Lk] := fun v => Lk.f (turned_d v)
theorem turned_eq v : turned v = turned_d v := lock_eq _
-- archipelago/ring.places
abbrev places_i : Items := [(.tmp 0, .dat (.slice (.int .i64))), (.tmp 1, .dat (.slice (.int .i64)))]
abbrev places_o : Items := [(.tmp 0, .own 3 (.int .i64)), (.tmp 1, .dat .bool)]
abbrev places_r : List RS := [.one, .one]
abbrev places_i0 : Items := [(.tmp 0, .dat (.slice (.int .i64))), (.tmp 6, .own 3 (.int .i64)), (.tmp 12, .dat (.slice (.int .i64))), (.tmp 13, .di), (.tmp 14, .di)]
abbrev places_o0 : Outs := [(.exit 0, [(.tmp 6, .own 3 (.int .i64))])]
def places_s0 [Lk] : (List Int × List Int × List Int × Int × Int × Unit) → Option ((List Int × List Int × List Int × Int × Int × Unit) ⊕ (List Int × Unit) ⊕ Unit) := fun (a0, a1, a2, a3, a4, _) =>
 match (ilt a4 a3) with
 | true => match idx a2 a4 with
  | none => none
  | some x0 => match indexI (a0, x0, ()) with
   | none => none
   | some (y1, _) => match (fits ((dlen a1) + (dlen ([y1] : List (Int))))) with
    | true => some (.inl (a0, (dapp a1 ([y1] : List (Int))), a2, a3, (IntKind.wrap .i64 (a4 + 1)), ()))
    | false => none
 | false => some (.inr (.inl (a1, ())))
def places_d [Lk] : (List Int × List Int × Unit) → Option ((List Int × Bool × Unit)) := fun (a0, a1, _) =>
 match rright (a0, ()) with
 | none => none
 | some (y0, _) => match (!y0) with
  | true => some (([] : List (Int)), false, ())
  | false => match iterL places_s0 many (a0, ([] : List (Int)), a1, (dlen a1), 0, ()) with
   | none => none
   | some r => match r with
    | .inl (o1, _) => match containsI (o1, (-1 : Int), ()) with
     | none => none
     | some (y2, _) => some (o1, (!y2), ())
    | .inr _ => none
def places [Lk] := fun v => Lk.f (places_d v)
theorem places_eq v : places v = places_d v := lock_eq _
-- archipelago/ring.From
abbrev rfrom_i : Items := [(.tmp 0, .dat (.slice (.int .i64))), (.tmp 1, .di)]
abbrev rfrom_o : Items := [(.tmp 0, .own 3 (.int .i64)), (.tmp 1, .dat .bool)]
abbrev rfrom_r : List RS := [.one, .one]
def rfrom_d [Lk] : (List Int × Int × Unit) → Option ((List Int × Bool × Unit)) := fun (a0, a1, _) =>
 match places (a0, ([a1] : List (Int)), ()) with
 | none => none
 | some (y0, y1, _) => match (!y1) with
  | true => some (([] : List (Int)), false, ())
  | false => match idx y0 0 with
   | none => none
   | some x2 => match turned (a0, (dget y0 0 0), ()) with
    | none => none
    | some (y3, _) => some (y3, true, ())
def rfrom [Lk] := fun v => Lk.f (rfrom_d v)
theorem rfrom_eq v : rfrom v = rfrom_d v := lock_eq _
-- archipelago/ring.Plain
abbrev rplain_i : Items := [(.tmp 0, .dat (.slice (.int .i64)))]
abbrev rplain_o : Items := [(.tmp 0, .own 3 (.int .i64))]
abbrev rplain_r : List RS := [.one]
def rplain_d [Lk] : (List Int × Unit) → Option ((List Int × Unit)) := fun (a0, _) =>
 match rright (a0, ()) with
 | none => none
 | some (y0, _) => match (!y0) with
  | true => some (([] : List (Int)), ())
  | false => match (ieq (dlen a0) 0) with
   | true => some (([] : List (Int)), ())
   | false => match minI (a0, ()) with
    | none => none
    | some (y1, _) => match indexI (a0, y1, ()) with
     | none => none
     | some (y2, _) => match turned (a0, y2, ()) with
      | none => none
      | some (y3, _) => some (y3, ())
def rplain [Lk] := fun v => Lk.f (rplain_d v)
theorem rplain_eq v : rplain v = rplain_d v := lock_eq _
-- slices.IndexFunc[[][]int,[]int]
abbrev idxFuncL_place_i : Items := [(.tmp 0, .dat (.slice (.slice (.int .i64)))), (.cap 1 0, .box 1), (.cell 0 0, .di), (.tmp 1, .clo 78 [(0, 0)])]
abbrev idxFuncL_place_o : Items := [(.obj 0, .box 1), (.cell 0 0, .di), (.tmp 0, .di)]
abbrev idxFuncL_place_r : List RS := [.one]
abbrev idxFuncL_place_i0 : Items := [(.obj 0, .box 1), (.cell 0 0, .di), (.tmp 0, .dat (.slice (.slice (.int .i64)))), (.tmp 1, .clo 78 [(0, 0)]), (.tmp 7, .di), (.tmp 8, .di)]
abbrev idxFuncL_place_o0 : Outs := [(.ret, [(.obj 0, .box 1), (.cell 0 0, .di), (.tmp 4, .di)]), (.exit 0, [(.obj 0, .box 1), (.cell 0 0, .di)])]
def idxFuncL_place_s0 [Lk] : (Int × List (List Int) × Int × Int × Unit) → Option ((Int × List (List Int) × Int × Int × Unit) ⊕ (Int × Int × Unit) ⊕ (Int × Unit) ⊕ Unit) := fun (a0, a1, a2, a3, _) =>
 match (ilt a3 a2) with
 | true => match idx a1 a3 with
  | none => none
  | some x0 => match containsI (x0, a0, ()) with
   | none => none
   | some (y1, _) => match y1 with
    | true => some (.inr (.inl (a0, a3, ())))
    | false => some (.inl (a0, a1, a2, (IntKind.wrap .i64 (a3 + 1)), ()))
 | false => some (.inr (.inr (.inl (a0, ()))))
def idxFuncL_place_d [Lk] : (List (List Int) × Int × Unit) → Option ((Int × Int × Unit)) := fun (a0, a1, _) =>
 match iterL idxFuncL_place_s0 many (a1, a0, (dlen a0), 0, ()) with
 | none => none
 | some r => match r with
  | .inl (o0, o1, _) => some (o0, o1, ())
  | .inr r => match r with
   | .inl (o2, _) => some (o2, (-1 : Int), ())
   | .inr _ => none
def idxFuncL_place [Lk] := fun v => Lk.f (idxFuncL_place_d v)
theorem idxFuncL_place_eq v : idxFuncL_place v = idxFuncL_place_d v := lock_eq _
-- archipelago/tour.place
abbrev tplace_i : Items := [(.tmp 0, .dat (.prod (.int .i64) (.prod (.slice (.slice (.int .i64))) .unit))), (.tmp 1, .di)]
abbrev tplace_o : Items := [(.tmp 0, .di)]
abbrev tplace_r : List RS := [.one]
def tplace_d [Lk] : ((Int × (List (List Int)) × Unit) × Int × Unit) → Option ((Int × Unit)) := fun (a0, a1, _) =>
 match idxFuncL_place (a0.2.1, a1, ()) with
 | none => none
 | some (y0, y1, _) => some (y1, ())
def tplace [Lk] := fun v => Lk.f (tplace_d v)
theorem tplace_eq v : tplace v = tplace_d v := lock_eq _
-- archipelago/tour.goes
abbrev goes_i : Items := [(.tmp 0, .di), (.tmp 1, .dat (.slice (.int .i64)))]
abbrev goes_o : Items := [(.tmp 0, .dat .bool)]
abbrev goes_r : List RS := [.one]
abbrev goes_i0 : Items := [(.tmp 0, .di), (.tmp 5, .box 3), (.cell 0 0, .own 3 (.int .i64)), (.cell 0 1, .map (.int .i64) (.int .i64)), (.cell 0 2, .map (.int .i64) (.int .i64)), (.tmp 30, .dat (.slice (.int .i64))), (.tmp 31, .di), (.tmp 32, .di)]
abbrev goes_o0 : Outs := [(.ret, [(.tmp 4, .dat .bool)]), (.exit 0, [(.tmp 5, .box 3), (.cell 0 0, .own 3 (.int .i64)), (.cell 0 1, .map (.int .i64) (.int .i64)), (.cell 0 2, .map (.int .i64) (.int .i64))])]
def goes_s0 [Lk] : (Int × List Int × List (Int × Int) × List (Int × Int) × List Int × Int × Int × Unit) → Option ((Int × List Int × List (Int × Int) × List (Int × Int) × List Int × Int × Int × Unit) ⊕ (Bool × Unit) ⊕ (List Int × List (Int × Int) × List (Int × Int) × Unit) ⊕ Unit) := fun (a0, a1, a2, a3, a4, a5, a6, _) =>
 match (ilt a6 a5) with
 | true => match idx a4 a6 with
  | none => none
  | some x0 => match ttoken (a0, x0, ()) with
   | none => none
   | some (y1, y2, y3, y4, _) => match (!y4) with
    | true => some (.inr (.inl (false, ())))
    | false => match y3 with
     | true => match idx a1 (IntKind.wrap .i64 ((dlen a1) - 1)) with
      | none => none
      | some x5 => match (!(ieq (dget a1 (dnat (IntKind.wrap .i64 ((dlen a1) - 1))) 0) y1)) with
       | true => some (.inr (.inl (false, ())))
       | false => match (ilt 0 (IntKind.wrap .i64 ((dlen a1) - 1))) with
        | true => match idx a1 (IntKind.wrap .i64 ((IntKind.wrap .i64 ((dlen a1) - 1)) - 1)) with
         | none => none
         | some x6 => match (ieq (dget a1 (dnat (IntKind.wrap .i64 ((IntKind.wrap .i64 ((dlen a1) - 1)) - 1))) 0) y2) with
          | true => match subl a1 0 (IntKind.wrap .i64 ((dlen a1) - 1)) with
           | none => none
           | some x7 => match (!y3) with
            | true => match idx (dcut 0 (dnat (dlen x7)) a1) (IntKind.wrap .i64 ((((dnat (dlen x7)) : Nat) : Int) - 1)) with
             | none => none
             | some x8 => match (!(ieq (dget a1 (0 + (dnat (IntKind.wrap .i64 ((((dnat (dlen x7)) : Nat) : Int) - 1)))) 0) y1)) with
              | true => some (.inr (.inl (false, ())))
              | false => match (!y3) with
               | true => some (.inl (a0, (dtake (dnat (dlen x7)) a1), a2, (storeM a3 y1 (IntKind.wrap .i64 (((lookupM a3 y1).getD 0) + 1))), a4, a5, (IntKind.wrap .i64 (a6 + 1)), ()))
               | false => some (.inl (a0, (dtake (dnat (dlen x7)) a1), a2, a3, a4, a5, (IntKind.wrap .i64 (a6 + 1)), ()))
            | false => match (!y3) with
             | true => some (.inl (a0, (dtake (dnat (dlen x7)) a1), a2, (storeM a3 y1 (IntKind.wrap .i64 (((lookupM a3 y1).getD 0) + 1))), a4, a5, (IntKind.wrap .i64 (a6 + 1)), ()))
             | false => some (.inl (a0, (dtake (dnat (dlen x7)) a1), a2, a3, a4, a5, (IntKind.wrap .i64 (a6 + 1)), ()))
          | false => match (ilt 0 ((lookupM a2 y2).getD 0)) with
           | true => some (.inr (.inl (false, ())))
           | false => match (fits ((dlen a1) + (dlen ([y2] : List (Int))))) with
            | true => match (!y3) with
             | true => match idx (dapp a1 ([y2] : List (Int))) (IntKind.wrap .i64 ((dlen (dapp a1 ([y2] : List (Int)))) - 1)) with
              | none => none
              | some x9 => match (!(ieq (dget (dapp a1 ([y2] : List (Int))) (dnat (IntKind.wrap .i64 ((dlen (dapp a1 ([y2] : List (Int)))) - 1))) 0) y1)) with
               | true => some (.inr (.inl (false, ())))
               | false => match (!y3) with
                | true => some (.inl (a0, (dapp a1 ([y2] : List (Int))), (storeM a2 y2 (IntKind.wrap .i64 (((lookupM a2 y2).getD 0) + 1))), (storeM a3 y1 (IntKind.wrap .i64 (((lookupM a3 y1).getD 0) + 1))), a4, a5, (IntKind.wrap .i64 (a6 + 1)), ()))
                | false => some (.inl (a0, (dapp a1 ([y2] : List (Int))), (storeM a2 y2 (IntKind.wrap .i64 (((lookupM a2 y2).getD 0) + 1))), a3, a4, a5, (IntKind.wrap .i64 (a6 + 1)), ()))
             | false => match (!y3) with
              | true => some (.inl (a0, (dapp a1 ([y2] : List (Int))), (storeM a2 y2 (IntKind.wrap .i64 (((lookupM a2 y2).getD 0) + 1))), (storeM a3 y1 (IntKind.wrap .i64 (((lookupM a3 y1).getD 0) + 1))), a4, a5, (IntKind.wrap .i64 (a6 + 1)), ()))
              | false => some (.inl (a0, (dapp a1 ([y2] : List (Int))), (storeM a2 y2 (IntKind.wrap .i64 (((lookupM a2 y2).getD 0) + 1))), a3, a4, a5, (IntKind.wrap .i64 (a6 + 1)), ()))
            | false => none
        | false => match (ilt 0 ((lookupM a2 y2).getD 0)) with
         | true => some (.inr (.inl (false, ())))
         | false => match (fits ((dlen a1) + (dlen ([y2] : List (Int))))) with
          | true => match (!y3) with
           | true => match idx (dapp a1 ([y2] : List (Int))) (IntKind.wrap .i64 ((dlen (dapp a1 ([y2] : List (Int)))) - 1)) with
            | none => none
            | some x10 => match (!(ieq (dget (dapp a1 ([y2] : List (Int))) (dnat (IntKind.wrap .i64 ((dlen (dapp a1 ([y2] : List (Int)))) - 1))) 0) y1)) with
             | true => some (.inr (.inl (false, ())))
             | false => match (!y3) with
              | true => some (.inl (a0, (dapp a1 ([y2] : List (Int))), (storeM a2 y2 (IntKind.wrap .i64 (((lookupM a2 y2).getD 0) + 1))), (storeM a3 y1 (IntKind.wrap .i64 (((lookupM a3 y1).getD 0) + 1))), a4, a5, (IntKind.wrap .i64 (a6 + 1)), ()))
              | false => some (.inl (a0, (dapp a1 ([y2] : List (Int))), (storeM a2 y2 (IntKind.wrap .i64 (((lookupM a2 y2).getD 0) + 1))), a3, a4, a5, (IntKind.wrap .i64 (a6 + 1)), ()))
           | false => match (!y3) with
            | true => some (.inl (a0, (dapp a1 ([y2] : List (Int))), (storeM a2 y2 (IntKind.wrap .i64 (((lookupM a2 y2).getD 0) + 1))), (storeM a3 y1 (IntKind.wrap .i64 (((lookupM a3 y1).getD 0) + 1))), a4, a5, (IntKind.wrap .i64 (a6 + 1)), ()))
            | false => some (.inl (a0, (dapp a1 ([y2] : List (Int))), (storeM a2 y2 (IntKind.wrap .i64 (((lookupM a2 y2).getD 0) + 1))), a3, a4, a5, (IntKind.wrap .i64 (a6 + 1)), ()))
          | false => none
     | false => match (!y3) with
      | true => match idx a1 (IntKind.wrap .i64 ((dlen a1) - 1)) with
       | none => none
       | some x11 => match (!(ieq (dget a1 (dnat (IntKind.wrap .i64 ((dlen a1) - 1))) 0) y1)) with
        | true => some (.inr (.inl (false, ())))
        | false => match (!y3) with
         | true => some (.inl (a0, a1, a2, (storeM a3 y1 (IntKind.wrap .i64 (((lookupM a3 y1).getD 0) + 1))), a4, a5, (IntKind.wrap .i64 (a6 + 1)), ()))
         | false => some (.inl (a0, a1, a2, a3, a4, a5, (IntKind.wrap .i64 (a6 + 1)), ()))
      | false => match (!y3) with
       | true => some (.inl (a0, a1, a2, (storeM a3 y1 (IntKind.wrap .i64 (((lookupM a3 y1).getD 0) + 1))), a4, a5, (IntKind.wrap .i64 (a6 + 1)), ()))
       | false => some (.inl (a0, a1, a2, a3, a4, a5, (IntKind.wrap .i64 (a6 + 1)), ()))
 | false => some (.inr (.inr (.inl (a1, a2, a3, ()))))
def goes_d [Lk] : (Int × List Int × Unit) → Option ((Bool × Unit)) := fun (a0, a1, _) =>
 match idx a1 0 with
 | none => none
 | some x0 => match tin (a0, x0, ()) with
  | none => none
  | some (y1, _) => match (!y1) with
   | true => some (false, ())
   | false => match idx a1 0 with
    | none => none
    | some x2 => match idx a1 0 with
     | none => none
     | some x3 => match iterL goes_s0 many (a0, ([x2] : List (Int)), (storeM ([] : List (Int × Int)) x3 1), ([] : List (Int × Int)), a1, (dlen a1), 0, ()) with
      | none => none
      | some r => match r with
       | .inl (o4, _) => some (o4, ())
       | .inr r => match r with
        | .inl (o5, o6, o7, _) => match (ieq (dlen o5) 1) with
         | true => some ((ieq (dlen o7) (dlen o6)), ())
         | false => some (false, ())
        | .inr _ => none
def goes [Lk] := fun v => Lk.f (goes_d v)
theorem goes_eq v : goes v = goes_d v := lock_eq _
-- archipelago/tour.Right
abbrev tright_i : Items := [(.tmp 0, .dat (.prod (.int .i64) (.prod (.slice (.slice (.int .i64))) .unit)))]
abbrev tright_o : Items := [(.tmp 0, .dat .bool)]
abbrev tright_r : List RS := [.one]
abbrev tright_i2 : Items := [(.tmp 3, .map (.int .i64) (.int .i64)), (.tmp 78, .di), (.tmp 79, .di)]
abbrev tright_o2 : Outs := [(.ret, [(.tmp 2, .dat .bool)]), (.exit 4, [])]
def tright_s2 [Lk] : (List (Int × Int) × Int × Int × Unit) → Option ((List (Int × Int) × Int × Int × Unit) ⊕ (Bool × Unit) ⊕ (Unit) ⊕ Unit) := fun (a0, a1, a2, _) =>
 match (ilt a2 a1) with
 | true => match (ieq ((lookupM a0 a2).getD 0) 0) with
  | true => some (.inr (.inl (false, ())))
  | false => some (.inl (a0, a1, (IntKind.wrap .i64 (a2 + 1)), ()))
 | false => some (.inr (.inr (.inl ())))
abbrev tright_i1 : Items := [(.tmp 1, .box 2), (.cell 0 0, .di), (.cell 0 1, .dat (.slice (.slice (.int .i64)))), (.tmp 3, .map (.int .i64) (.int .i64)), (.tmp 4, .di), (.tmp 16, .dat (.slice (.slice (.int .i64)))), (.tmp 17, .di), (.tmp 18, .di), (.tmp 26, .dat (.slice (.int .i64))), (.tmp 28, .di), (.tmp 29, .di), (.tmp 30, .dat .bool), (.tmp 33, .dat (.slice (.int .i64))), (.tmp 34, .dat .bool), (.tmp 35, .dat .bool), (.tmp 38, .dat (.slice (.int .i64))), (.tmp 39, .di), (.tmp 40, .dat (.slice (.int .i64))), (.tmp 42, .di), (.tmp 43, .dat .bool), (.tmp 46, .ptr' 0 0), (.tmp 47, .di), (.tmp 48, .dat (.slice (.int .i64))), (.tmp 49, .dat .bool), (.tmp 50, .dat .bool), (.tmp 55, .dat (.slice (.int .i64))), (.tmp 56, .di), (.tmp 57, .di)]
abbrev tright_o1 : Outs := [(.ret, [(.tmp 2, .dat .bool)]), (.exit 2, [(.tmp 1, .box 2), (.cell 0 0, .di), (.cell 0 1, .dat (.slice (.slice (.int .i64)))), (.tmp 3, .map (.int .i64) (.int .i64)), (.tmp 4, .di), (.tmp 16, .dat (.slice (.slice (.int .i64)))), (.tmp 17, .di), (.tmp 18, .di), (.tmp 26, .dat (.slice (.int .i64))), (.tmp 28, .di), (.tmp 29, .di), (.tmp 30, .dat .bool), (.tmp 33, .dat (.slice (.int .i64))), (.tmp 34, .dat .bool), (.tmp 35, .dat .bool), (.tmp 38, .dat (.slice (.int .i64))), (.tmp 39, .di), (.tmp 40, .dat (.slice (.int .i64))), (.tmp 42, .di), (.tmp 43, .dat .bool), (.tmp 46, .ptr' 0 0), (.tmp 47, .di), (.tmp 48, .dat (.slice (.int .i64))), (.tmp 49, .dat .bool), (.tmp 50, .dat .bool)])]
def tright_s1 [Lk] : (Int × List (List Int) × List (Int × Int) × Int × List (List Int) × Int × Int × List Int × Int × Int × Bool × List Int × Bool × Bool × List Int × Int × List Int × Int × Bool × Int × List Int × Bool × Bool × List Int × Int × Int × Unit) → Option ((Int × List (List Int) × List (Int × Int) × Int × List (List Int) × Int × Int × List Int × Int × Int × Bool × List Int × Bool × Bool × List Int × Int × List Int × Int × Bool × Int × List Int × Bool × Bool × List Int × Int × Int × Unit) ⊕ (Bool × Unit) ⊕ (Int × List (List Int) × List (Int × Int) × Int × List (List Int) × Int × Int × List Int × Int × Int × Bool × List Int × Bool × Bool × List Int × Int × List Int × Int × Bool × Int × List Int × Bool × Bool × Unit) ⊕ Unit) := fun (a0, a1, a2, a3, a4, a5, a6, a7, a8, a9, a10, a11, a12, a13, a14, a15, a16, a17, a18, a19, a20, a21, a22, a23, a24, a25, _) =>
 match (ilt a25 a24) with
 | true => match idx a23 a25 with
  | none => none
  | some x0 => match (ilt x0 a0) with
   | true => match (ilt 0 ((lookupM a2 x0).getD 0)) with
    | true => some (.inr (.inl (false, ())))
    | false => some (.inl (a0, a1, (storeM a2 x0 (IntKind.wrap .i64 (((lookupM a2 x0).getD 0) + 1))), a3, a4, a5, a6, a7, a8, a9, a10, a11, a12, a13, a14, a15, a16, a17, a18, a19, a20, a21, a22, a23, a24, (IntKind.wrap .i64 (a25 + 1)), ()))
   | false => some (.inl (a0, a1, (storeM a2 x0 (IntKind.wrap .i64 (((lookupM a2 x0).getD 0) + 1))), a3, a4, a5, a6, a7, a8, a9, a10, a11, a12, a13, a14, a15, a16, a17, a18, a19, a20, a21, a22, a23, a24, (IntKind.wrap .i64 (a25 + 1)), ()))
 | false => some (.inr (.inr (.inl (a0, a1, a2, a3, a4, a5, a6, a7, a8, a9, a10, a11, a12, a13, a14, a15, a16, a17, a18, a19, a20, a21, a22, ()))))
abbrev tright_i0 : Items := [(.tmp 1, .box 2), (.cell 0 0, .di), (.cell 0 1, .dat (.slice (.slice (.int .i64)))), (.tmp 3, .map (.int .i64) (.int .i64)), (.tmp 4, .di), (.tmp 16, .dat (.slice (.slice (.int .i64)))), (.tmp 17, .di), (.tmp 18, .di)]
abbrev tright_o0 : Outs := [(.ret, [(.tmp 2, .dat .bool)]), (.exit 0, [(.tmp 1, .box 2), (.cell 0 0, .di), (.cell 0 1, .dat (.slice (.slice (.int .i64)))), (.tmp 3, .map (.int .i64) (.int .i64))])]
def tright_s0 [Lk] : (Int × List (List Int) × List (Int × Int) × Int × List (List Int) × Int × Int × Unit) → Option ((Int × List (List Int) × List (Int × Int) × Int × List (List Int) × Int × Int × Unit) ⊕ (Bool × Unit) ⊕ (Int × List (List Int) × List (Int × Int) × Unit) ⊕ Unit) := fun (a0, a1, a2, a3, a4, a5, a6, _) =>
 match (ilt a6 a5) with
 | true => match idx a4 a6 with
  | none => none
  | some x0 => match (ieq (dlen x0) 0) with
   | true => some (.inr (.inl (false, ())))
   | false => match idx x0 0 with
    | none => none
    | some x1 => match (ile x1 a3) with
     | true => some (.inr (.inl (false, ())))
     | false => match rright (x0, ()) with
      | none => none
      | some (y2, _) => match (!y2) with
       | true => some (.inr (.inl (false, ())))
       | false => match minI (x0, ()) with
        | none => none
        | some (y3, _) => match idx x0 0 with
         | none => none
         | some x4 => match (!(ieq y3 x4)) with
          | true => some (.inr (.inl (false, ())))
          | false => match goes (a0, x0, ()) with
           | none => none
           | some (y5, _) => match (!y5) with
            | true => some (.inr (.inl (false, ())))
            | false => match idx x0 0 with
             | none => none
             | some x6 => match iterL tright_s1 many (a0, a1, a2, x6, a4, a5, a6, x0, x1, a3, (ile x1 a3), x0, y2, (!y2), x0, y3, x0, x4, (!(ieq y3 x4)), a0, x0, y5, (!y5), x0, (dlen x0), 0, ()) with
              | none => none
              | some r => match r with
               | .inl (o7, _) => some (.inr (.inl (o7, ())))
               | .inr r => match r with
                | .inl (o8, o9, o10, o11, o12, o13, o14, o15, o16, o17, o18, o19, o20, o21, o22, o23, o24, o25, o26, o27, o28, o29, o30, _) => some (.inl (o8, o9, o10, o11, o12, o13, (IntKind.wrap .i64 (o14 + 1)), ()))
                | .inr _ => none
 | false => some (.inr (.inr (.inl (a0, a1, a2, ()))))
def tright_d [Lk] : ((Int × (List (List Int)) × Unit) × Unit) → Option ((Bool × Unit)) := fun (a0, _) =>
 match tsized (a0.1, ()) with
 | none => none
 | some (y0, _) => match (!y0) with
  | true => some (false, ())
  | false => match iterL tright_s0 many (a0.1, a0.2.1, ([] : List (Int × Int)), (-1 : Int), a0.2.1, (dlen a0.2.1), 0, ()) with
   | none => none
   | some r => match r with
    | .inl (o1, _) => some (o1, ())
    | .inr r => match r with
     | .inl (o2, o3, o4, _) => match iterL tright_s2 many (o4, o2, 0, ()) with
      | none => none
      | some r => match r with
       | .inl (o5, _) => some (o5, ())
       | .inr r => match r with
        | .inl _ => some (true, ())
        | .inr _ => none
     | .inr _ => none
def tright [Lk] := fun v => Lk.f (tright_d v)
theorem tright_eq v : tright v = tright_d v := lock_eq _
-- archipelago/tour.asked
abbrev asked_i : Items := [(.tmp 0, .dat (.prod (.int .i64) (.prod (.slice (.slice (.int .i64))) .unit))), (.tmp 1, .di), (.tmp 2, .di)]
abbrev asked_o : Items := [(.tmp 0, .di)]
abbrev asked_r : List RS := [.one]
def asked_d [Lk] : ((Int × (List (List Int)) × Unit) × Int × Int × Unit) → Option ((Int × Unit)) := fun (a0, a1, a2, _) =>
 match tright ((a0.1, (a0.2.1, ())), ()) with
 | none => none
 | some (y0, _) => match (!y0) with
  | true => some (1, ())
  | false => match tin (a0.1, a1, ()) with
   | none => none
   | some (y1, _) => match (!y1) with
    | true => some (10, ())
    | false => match tin (a0.1, a2, ()) with
     | none => none
     | some (y2, _) => match (!y2) with
      | true => some (10, ())
      | false => some (0, ())
def asked [Lk] := fun v => Lk.f (asked_d v)
theorem asked_eq v : asked v = asked_d v := lock_eq _
-- cmp.isNaN[int]
abbrev nanI_i : Items := [(.tmp 0, .di)]
abbrev nanI_o : Items := [(.tmp 0, .dat .bool)]
abbrev nanI_r : List RS := [.one]
def nanI_d [Lk] : (Int × Unit) → Option ((Bool × Unit)) := fun (a0, _) =>
 some ((!(ieq a0 a0)), ())
def nanI [Lk] := fun v => Lk.f (nanI_d v)
theorem nanI_eq v : nanI v = nanI_d v := lock_eq _
-- cmp.Compare[int]
abbrev compareI_i : Items := [(.tmp 0, .di), (.tmp 1, .di)]
abbrev compareI_o : Items := [(.tmp 0, .di)]
abbrev compareI_r : List RS := [.one]
def compareI_d [Lk] : (Int × Int × Unit) → Option ((Int × Unit)) := fun (a0, a1, _) =>
 match nanI (a0, ()) with
 | none => none
 | some (y0, _) => match nanI (a1, ()) with
  | none => none
  | some (y1, _) => match y0 with
   | true => match y1 with
    | true => some (0, ())
    | false => some ((-1 : Int), ())
   | false => match y1 with
    | true => some (1, ())
    | false => match (ilt a0 a1) with
     | true => some ((-1 : Int), ())
     | false => match (ilt a1 a0) with
      | true => some (1, ())
      | false => some (0, ())
def compareI [Lk] := fun v => Lk.f (compareI_d v)
theorem compareI_eq v : compareI v = compareI_d v := lock_eq _
-- archipelago/tour.with$1
abbrev with1_i : Items := [(.tmp 0, .dat (.slice (.int .i64))), (.tmp 1, .dat (.slice (.int .i64)))]
abbrev with1_o : Items := [(.tmp 0, .di)]
abbrev with1_r : List RS := [.one]
def with1_d [Lk] : (List Int × List Int × Unit) → Option ((Int × Unit)) := fun (a0, a1, _) =>
 match idx a0 0 with
 | none => none
 | some x0 => match idx a1 0 with
  | none => none
  | some x1 => match compareI (x0, x1, ()) with
   | none => none
   | some (y2, _) => some (y2, ())
def with1 [Lk] := fun v => Lk.f (with1_d v)
theorem with1_eq v : with1 v = with1_d v := lock_eq _
-- math/bits.Len64
def lenTab : List Int := [0, 1, 2, 2, 3, 3, 3, 3, 4, 4, 4, 4, 4, 4, 4, 4, 5, 5, 5, 5, 5, 5, 5, 5, 5, 5, 5, 5, 5, 5, 5, 5, 6, 6, 6, 6, 6, 6, 6, 6, 6, 6, 6, 6, 6, 6, 6, 6, 6, 6, 6, 6, 6, 6, 6, 6, 6, 6, 6, 6, 6, 6, 6, 6, 7, 7, 7, 7, 7, 7, 7, 7, 7, 7, 7, 7, 7, 7, 7, 7, 7, 7, 7, 7, 7, 7, 7, 7, 7, 7, 7, 7, 7, 7, 7, 7, 7, 7, 7, 7, 7, 7, 7, 7, 7, 7, 7, 7, 7, 7, 7, 7, 7, 7, 7, 7, 7, 7, 7, 7, 7, 7, 7, 7, 7, 7, 7, 7, 8, 8, 8, 8, 8, 8, 8, 8, 8, 8, 8, 8, 8, 8, 8, 8, 8, 8, 8, 8, 8, 8, 8, 8, 8, 8, 8, 8, 8, 8, 8, 8, 8, 8, 8, 8, 8, 8, 8, 8, 8, 8, 8, 8, 8, 8, 8, 8, 8, 8, 8, 8, 8, 8, 8, 8, 8, 8, 8, 8, 8, 8, 8, 8, 8, 8, 8, 8, 8, 8, 8, 8, 8, 8, 8, 8, 8, 8, 8, 8, 8, 8, 8, 8, 8, 8, 8, 8, 8, 8, 8, 8, 8, 8, 8, 8, 8, 8, 8, 8, 8, 8, 8, 8, 8, 8, 8, 8, 8, 8, 8, 8, 8, 8, 8, 8, 8, 8, 8, 8, 8, 8, 8, 8, 8, 8, 8, 8]
abbrev len64_i : Items := [(.tmp 0, .dat (.int .u64))]
abbrev len64_o : Items := [(.tmp 0, .di)]
abbrev len64_r : List RS := [.one]
def len64_d [Lk] : (Int × Unit) → Option ((Int × Unit)) := fun (a0, _) =>
 match (ile 4294967296 a0) with
 | true => match shr? .u64 a0 32 with
  | none => none
  | some x0 => match (ile 65536 x0) with
   | true => match shr? .u64 x0 16 with
    | none => none
    | some x1 => match (ile 256 x1) with
     | true => match shr? .u64 x1 8 with
      | none => none
      | some x2 => match idx lenTab (IntKind.wrap .u8 x2) with
       | none => none
       | some x3 => some ((IntKind.wrap .i64 ((IntKind.wrap .i64 ((IntKind.wrap .i64 (32 + 16)) + 8)) + (IntKind.wrap .i64 x3))), ())
     | false => match idx lenTab (IntKind.wrap .u8 x1) with
      | none => none
      | some x4 => some ((IntKind.wrap .i64 ((IntKind.wrap .i64 (32 + 16)) + (IntKind.wrap .i64 x4))), ())
   | false => match (ile 256 x0) with
    | true => match shr? .u64 x0 8 with
     | none => none
     | some x5 => match idx lenTab (IntKind.wrap .u8 x5) with
      | none => none
      | some x6 => some ((IntKind.wrap .i64 ((IntKind.wrap .i64 (32 + 8)) + (IntKind.wrap .i64 x6))), ())
    | false => match idx lenTab (IntKind.wrap .u8 x0) with
     | none => none
     | some x7 => some ((IntKind.wrap .i64 (32 + (IntKind.wrap .i64 x7))), ())
 | false => match (ile 65536 a0) with
  | true => match shr? .u64 a0 16 with
   | none => none
   | some x8 => match (ile 256 x8) with
    | true => match shr? .u64 x8 8 with
     | none => none
     | some x9 => match idx lenTab (IntKind.wrap .u8 x9) with
      | none => none
      | some x10 => some ((IntKind.wrap .i64 ((IntKind.wrap .i64 ((IntKind.wrap .i64 (0 + 16)) + 8)) + (IntKind.wrap .i64 x10))), ())
    | false => match idx lenTab (IntKind.wrap .u8 x8) with
     | none => none
     | some x11 => some ((IntKind.wrap .i64 ((IntKind.wrap .i64 (0 + 16)) + (IntKind.wrap .i64 x11))), ())
  | false => match (ile 256 a0) with
   | true => match shr? .u64 a0 8 with
    | none => none
    | some x12 => match idx lenTab (IntKind.wrap .u8 x12) with
     | none => none
     | some x13 => some ((IntKind.wrap .i64 ((IntKind.wrap .i64 (0 + 8)) + (IntKind.wrap .i64 x13))), ())
   | false => match idx lenTab (IntKind.wrap .u8 a0) with
    | none => none
    | some x14 => some ((IntKind.wrap .i64 (0 + (IntKind.wrap .i64 x14))), ())
def len64 [Lk] := fun v => Lk.f (len64_d v)
theorem len64_eq v : len64 v = len64_d v := lock_eq _
-- math/bits.Len
abbrev bitsLen_i : Items := [(.tmp 0, .dat (.int .u64))]
abbrev bitsLen_o : Items := [(.tmp 0, .di)]
abbrev bitsLen_r : List RS := [.one]
def bitsLen_d [Lk] : (Int × Unit) → Option ((Int × Unit)) := fun (a0, _) =>
 match len64 (a0, ()) with
 | none => none
 | some (y0, _) => some (y0, ())
def bitsLen [Lk] := fun v => Lk.f (bitsLen_d v)
theorem bitsLen_eq v : bitsLen v = bitsLen_d v := lock_eq _
-- (*slices.xorshift).Next
abbrev xorNext_i : Items := [(.tmp 0, .box 1), (.cell 0 0, .dat (.int .u64))]
abbrev xorNext_o : Items := [(.obj 0, .box 1), (.cell 0 0, .dat (.int .u64)), (.tmp 0, .dat (.int .u64))]
abbrev xorNext_r : List RS := [.one]
def xorNext_d [Lk] : (Int × Unit) → Option ((Int × Int × Unit)) := fun (a0, _) =>
 match shl? .u64 a0 13 with
 | none => none
 | some x0 => match shr? .u64 (IntKind.wrap .u64 ((BitVec.ofInt (IntKind.bits .u64) a0 ^^^ BitVec.ofInt (IntKind.bits .u64) x0).toNat)) 7 with
  | none => none
  | some x1 => match shl? .u64 (IntKind.wrap .u64 ((BitVec.ofInt (IntKind.bits .u64) (IntKind.wrap .u64 ((BitVec.ofInt (IntKind.bits .u64) a0 ^^^ BitVec.ofInt (IntKind.bits .u64) x0).toNat)) ^^^ BitVec.ofInt (IntKind.bits .u64) x1).toNat)) 17 with
   | none => none
   | some x2 => some ((IntKind.wrap .u64 ((BitVec.ofInt (IntKind.bits .u64) (IntKind.wrap .u64 ((BitVec.ofInt (IntKind.bits .u64) (IntKind.wrap .u64 ((BitVec.ofInt (IntKind.bits .u64) a0 ^^^ BitVec.ofInt (IntKind.bits .u64) x0).toNat)) ^^^ BitVec.ofInt (IntKind.bits .u64) x1).toNat)) ^^^ BitVec.ofInt (IntKind.bits .u64) x2).toNat)), (IntKind.wrap .u64 ((BitVec.ofInt (IntKind.bits .u64) (IntKind.wrap .u64 ((BitVec.ofInt (IntKind.bits .u64) (IntKind.wrap .u64 ((BitVec.ofInt (IntKind.bits .u64) a0 ^^^ BitVec.ofInt (IntKind.bits .u64) x0).toNat)) ^^^ BitVec.ofInt (IntKind.bits .u64) x1).toNat)) ^^^ BitVec.ofInt (IntKind.bits .u64) x2).toNat)), ())
def xorNext [Lk] := fun v => Lk.f (xorNext_d v)
theorem xorNext_eq v : xorNext v = xorNext_d v := lock_eq _
-- slices.nextPowerOfTwo
abbrev nextPow_i : Items := [(.tmp 0, .di)]
abbrev nextPow_o : Items := [(.tmp 0, .dat (.int .u64))]
abbrev nextPow_r : List RS := [.one]
def nextPow_d [Lk] : (Int × Unit) → Option ((Int × Unit)) := fun (a0, _) =>
 match bitsLen ((IntKind.wrap .u64 a0), ()) with
 | none => none
 | some (y0, _) => match shl? .u64 1 y0 with
  | none => none
  | some x1 => some (x1, ())
def nextPow [Lk] := fun v => Lk.f (nextPow_d v)
theorem nextPow_eq v : nextPow v = nextPow_d v := lock_eq _
-- slices.insertionSortCmpFunc[[]int]
abbrev insL_i : Items := [(.tmp 0, .own 28 (.slice (.int .i64))), (.tmp 1, .di), (.tmp 2, .di), (.tmp 3, .clo 84 [])]
abbrev insL_o : Items := [(.obj 0, .own 28 (.slice (.int .i64)))]
abbrev insL_r : List RS := []
abbrev insL_i1 : Items := [(.obj 0, .own 28 (.slice (.int .i64))), (.tmp 0, .own' 0), (.tmp 1, .di), (.tmp 2, .di), (.tmp 3, .clo 84 []), (.tmp 8, .di), (.tmp 9, .di)]
abbrev insL_o1 : Outs := [(.exit 2, [(.obj 0, .own 28 (.slice (.int .i64))), (.tmp 0, .own' 0), (.tmp 1, .di), (.tmp 2, .di), (.tmp 3, .clo 84 []), (.tmp 8, .di)])]
def insL_s1 [Lk] : (List (List Int) × Int × Int × Int × Int × Unit) → Option ((List (List Int) × Int × Int × Int × Int × Unit) ⊕ (List (List Int) × Int × Int × Int × Unit) ⊕ Unit) := fun (a0, a1, a2, a3, a4, _) =>
 match (ilt a1 a4) with
 | true => match idx a0 a4 with
  | none => none
  | some x0 => match idx a0 (IntKind.wrap .i64 (a4 - 1)) with
   | none => none
   | some x1 => match with1 ((dget a0 (dnat a4) ([] : List (Int))), (dget a0 (dnat (IntKind.wrap .i64 (a4 - 1))) ([] : List (Int))), ()) with
    | none => none
    | some (y2, _) => match (ilt y2 0) with
     | true => match idx a0 (IntKind.wrap .i64 (a4 - 1)) with
      | none => none
      | some x3 => match idx a0 a4 with
       | none => none
       | some x4 => match idx a0 a4 with
        | none => none
        | some x5 => match idx (dset a0 (dnat a4) (dget a0 (dnat (IntKind.wrap .i64 (a4 - 1))) ([] : List (Int)))) (IntKind.wrap .i64 (a4 - 1)) with
         | none => none
         | some x6 => some (.inl ((dset (dset a0 (dnat a4) (dget a0 (dnat (IntKind.wrap .i64 (a4 - 1))) ([] : List (Int)))) (dnat (IntKind.wrap .i64 (a4 - 1))) (dget a0 (dnat a4) ([] : List (Int)))), a1, a2, a3, (IntKind.wrap .i64 (a4 - 1)), ()))
     | false => some (.inr (.inl (a0, a1, a2, a3, ())))
 | false => some (.inr (.inl (a0, a1, a2, a3, ())))
abbrev insL_i0 : Items := [(.obj 0, .own 28 (.slice (.int .i64))), (.tmp 0, .own' 0), (.tmp 1, .di), (.tmp 2, .di), (.tmp 3, .clo 84 []), (.tmp 8, .di)]
abbrev insL_o0 : Outs := [(.exit 0, [(.obj 0, .own 28 (.slice (.int .i64)))])]
def insL_s0 [Lk] : (List (List Int) × Int × Int × Int × Unit) → Option ((List (List Int) × Int × Int × Int × Unit) ⊕ (List (List Int) × Unit) ⊕ Unit) := fun (a0, a1, a2, a3, _) =>
 match (ilt a3 a2) with
 | true => match iterL insL_s1 many (a0, a1, a2, a3, a3, ()) with
  | none => none
  | some r => match r with
   | .inl (o0, o1, o2, o3, _) => some (.inl (o0, o1, o2, (IntKind.wrap .i64 (o3 + 1)), ()))
   | .inr _ => none
 | false => some (.inr (.inl (a0, ())))
def insL_d [Lk] : (List (List Int) × Int × Int × Unit) → Option ((List (List Int) × Unit)) := fun (a0, a1, a2, _) =>
 match iterL insL_s0 many (a0, a1, a2, (IntKind.wrap .i64 (a1 + 1)), ()) with
 | none => none
 | some r => match r with
  | .inl (o0, _) => some (o0, ())
  | .inr _ => none
def insL [Lk] := fun v => Lk.f (insL_d v)
theorem insL_eq v : insL v = insL_d v := lock_eq _
-- slices.siftDownCmpFunc[[]int]
abbrev siftL_i : Items := [(.tmp 0, .own 28 (.slice (.int .i64))), (.tmp 1, .di), (.tmp 2, .di), (.tmp 3, .di), (.tmp 4, .clo 84 [])]
abbrev siftL_o : Items := [(.obj 0, .own 28 (.slice (.int .i64)))]
abbrev siftL_r : List RS := []
abbrev siftL_i0 : Items := [(.obj 0, .own 28 (.slice (.int .i64))), (.tmp 0, .own' 0), (.tmp 2, .di), (.tmp 3, .di), (.tmp 4, .clo 84 []), (.tmp 10, .di)]
abbrev siftL_o0 : Outs := [(.exit 0, [(.obj 0, .own 28 (.slice (.int .i64)))]), (.ret, [(.obj 0, .own 28 (.slice (.int .i64)))])]
def siftL_s0 [Lk] : (List (List Int) × Int × Int × Int × Unit) → Option ((List (List Int) × Int × Int × Int × Unit) ⊕ (List (List Int) × Unit) ⊕ (List (List Int) × Unit) ⊕ Unit) := fun (a0, a1, a2, a3, _) =>
 match (ile a1 (IntKind.wrap .i64 ((IntKind.wrap .i64 (2 * a3)) + 1))) with
 | true => some (.inr (.inl (a0, ())))
 | false => match (ilt (IntKind.wrap .i64 ((IntKind.wrap .i64 ((IntKind.wrap .i64 (2 * a3)) + 1)) + 1)) a1) with
  | true => match idx a0 (IntKind.wrap .i64 (a2 + (IntKind.wrap .i64 ((IntKind.wrap .i64 (2 * a3)) + 1)))) with
   | none => none
   | some x0 => match idx a0 (IntKind.wrap .i64 ((IntKind.wrap .i64 (a2 + (IntKind.wrap .i64 ((IntKind.wrap .i64 (2 * a3)) + 1)))) + 1)) with
    | none => none
    | some x1 => match with1 ((dget a0 (dnat (IntKind.wrap .i64 (a2 + (IntKind.wrap .i64 ((IntKind.wrap .i64 (2 * a3)) + 1))))) ([] : List (Int))), (dget a0 (dnat (IntKind.wrap .i64 ((IntKind.wrap .i64 (a2 + (IntKind.wrap .i64 ((IntKind.wrap .i64 (2 * a3)) + 1)))) + 1))) ([] : List (Int))), ()) with
     | none => none
     | some (y2, _) => match (ilt y2 0) with
      | true => match idx a0 (IntKind.wrap .i64 (a2 + a3)) with
       | none => none
       | some x3 => match idx a0 (IntKind.wrap .i64 (a2 + (IntKind.wrap .i64 ((IntKind.wrap .i64 ((IntKind.wrap .i64 (2 * a3)) + 1)) + 1)))) with
        | none => none
        | some x4 => match with1 ((dget a0 (dnat (IntKind.wrap .i64 (a2 + a3))) ([] : List (Int))), (dget a0 (dnat (IntKind.wrap .i64 (a2 + (IntKind.wrap .i64 ((IntKind.wrap .i64 ((IntKind.wrap .i64 (2 * a3)) + 1)) + 1))))) ([] : List (Int))), ()) with
         | none => none
         | some (y5, _) => match (!(ilt y5 0)) with
          | true => some (.inr (.inr (.inl (a0, ()))))
          | false => match idx a0 (IntKind.wrap .i64 (a2 + (IntKind.wrap .i64 ((IntKind.wrap .i64 ((IntKind.wrap .i64 (2 * a3)) + 1)) + 1)))) with
           | none => none
           | some x6 => match idx a0 (IntKind.wrap .i64 (a2 + a3)) with
            | none => none
            | some x7 => match idx a0 (IntKind.wrap .i64 (a2 + a3)) with
             | none => none
             | some x8 => match idx (dset a0 (dnat (IntKind.wrap .i64 (a2 + a3))) (dget a0 (dnat (IntKind.wrap .i64 (a2 + (IntKind.wrap .i64 ((IntKind.wrap .i64 ((IntKind.wrap .i64 (2 * a3)) + 1)) + 1))))) ([] : List (Int)))) (IntKind.wrap .i64 (a2 + (IntKind.wrap .i64 ((IntKind.wrap .i64 ((IntKind.wrap .i64 (2 * a3)) + 1)) + 1)))) with
              | none => none
              | some x9 => some (.inl ((dset (dset a0 (dnat (IntKind.wrap .i64 (a2 + a3))) (dget a0 (dnat (IntKind.wrap .i64 (a2 + (IntKind.wrap .i64 ((IntKind.wrap .i64 ((IntKind.wrap .i64 (2 * a3)) + 1)) + 1))))) ([] : List (Int)))) (dnat (IntKind.wrap .i64 (a2 + (IntKind.wrap .i64 ((IntKind.wrap .i64 ((IntKind.wrap .i64 (2 * a3)) + 1)) + 1))))) (dget a0 (dnat (IntKind.wrap .i64 (a2 + a3))) ([] : List (Int)))), a1, a2, (IntKind.wrap .i64 ((IntKind.wrap .i64 ((IntKind.wrap .i64 (2 * a3)) + 1)) + 1)), ()))
      | false => match idx a0 (IntKind.wrap .i64 (a2 + a3)) with
       | none => none
       | some x10 => match idx a0 (IntKind.wrap .i64 (a2 + (IntKind.wrap .i64 ((IntKind.wrap .i64 (2 * a3)) + 1)))) with
        | none => none
        | some x11 => match with1 ((dget a0 (dnat (IntKind.wrap .i64 (a2 + a3))) ([] : List (Int))), (dget a0 (dnat (IntKind.wrap .i64 (a2 + (IntKind.wrap .i64 ((IntKind.wrap .i64 (2 * a3)) + 1))))) ([] : List (Int))), ()) with
         | none => none
         | some (y12, _) => match (!(ilt y12 0)) with
          | true => some (.inr (.inr (.inl (a0, ()))))
          | false => match idx a0 (IntKind.wrap .i64 (a2 + (IntKind.wrap .i64 ((IntKind.wrap .i64 (2 * a3)) + 1)))) with
           | none => none
           | some x13 => match idx a0 (IntKind.wrap .i64 (a2 + a3)) with
            | none => none
            | some x14 => match idx a0 (IntKind.wrap .i64 (a2 + a3)) with
             | none => none
             | some x15 => match idx (dset a0 (dnat (IntKind.wrap .i64 (a2 + a3))) (dget a0 (dnat (IntKind.wrap .i64 (a2 + (IntKind.wrap .i64 ((IntKind.wrap .i64 (2 * a3)) + 1))))) ([] : List (Int)))) (IntKind.wrap .i64 (a2 + (IntKind.wrap .i64 ((IntKind.wrap .i64 (2 * a3)) + 1)))) with
              | none => none
              | some x16 => some (.inl ((dset (dset a0 (dnat (IntKind.wrap .i64 (a2 + a3))) (dget a0 (dnat (IntKind.wrap .i64 (a2 + (IntKind.wrap .i64 ((IntKind.wrap .i64 (2 * a3)) + 1))))) ([] : List (Int)))) (dnat (IntKind.wrap .i64 (a2 + (IntKind.wrap .i64 ((IntKind.wrap .i64 (2 * a3)) + 1))))) (dget a0 (dnat (IntKind.wrap .i64 (a2 + a3))) ([] : List (Int)))), a1, a2, (IntKind.wrap .i64 ((IntKind.wrap .i64 (2 * a3)) + 1)), ()))
  | false => match idx a0 (IntKind.wrap .i64 (a2 + a3)) with
   | none => none
   | some x17 => match idx a0 (IntKind.wrap .i64 (a2 + (IntKind.wrap .i64 ((IntKind.wrap .i64 (2 * a3)) + 1)))) with
    | none => none
    | some x18 => match with1 ((dget a0 (dnat (IntKind.wrap .i64 (a2 + a3))) ([] : List (Int))), (dget a0 (dnat (IntKind.wrap .i64 (a2 + (IntKind.wrap .i64 ((IntKind.wrap .i64 (2 * a3)) + 1))))) ([] : List (Int))), ()) with
     | none => none
     | some (y19, _) => match (!(ilt y19 0)) with
      | true => some (.inr (.inr (.inl (a0, ()))))
      | false => match idx a0 (IntKind.wrap .i64 (a2 + (IntKind.wrap .i64 ((IntKind.wrap .i64 (2 * a3)) + 1)))) with
       | none => none
       | some x20 => match idx a0 (IntKind.wrap .i64 (a2 + a3)) with
        | none => none
        | some x21 => match idx a0 (IntKind.wrap .i64 (a2 + a3)) with
         | none => none
         | some x22 => match idx (dset a0 (dnat (IntKind.wrap .i64 (a2 + a3))) (dget a0 (dnat (IntKind.wrap .i64 (a2 + (IntKind.wrap .i64 ((IntKind.wrap .i64 (2 * a3)) + 1))))) ([] : List (Int)))) (IntKind.wrap .i64 (a2 + (IntKind.wrap .i64 ((IntKind.wrap .i64 (2 * a3)) + 1)))) with
          | none => none
          | some x23 => some (.inl ((dset (dset a0 (dnat (IntKind.wrap .i64 (a2 + a3))) (dget a0 (dnat (IntKind.wrap .i64 (a2 + (IntKind.wrap .i64 ((IntKind.wrap .i64 (2 * a3)) + 1))))) ([] : List (Int)))) (dnat (IntKind.wrap .i64 (a2 + (IntKind.wrap .i64 ((IntKind.wrap .i64 (2 * a3)) + 1))))) (dget a0 (dnat (IntKind.wrap .i64 (a2 + a3))) ([] : List (Int)))), a1, a2, (IntKind.wrap .i64 ((IntKind.wrap .i64 (2 * a3)) + 1)), ()))
def siftL_d [Lk] : (List (List Int) × Int × Int × Int × Unit) → Option ((List (List Int) × Unit)) := fun (a0, a1, a2, a3, _) =>
 match iterL siftL_s0 many (a0, a2, a3, a1, ()) with
 | none => none
 | some r => match r with
  | .inl (o0, _) => some (o0, ())
  | .inr r => match r with
   | .inl (o1, _) => some (o1, ())
   | .inr _ => none
def siftL [Lk] := fun v => Lk.f (siftL_d v)
theorem siftL_eq v : siftL v = siftL_d v := lock_eq _
-- slices.heapSortCmpFunc[[]int]
abbrev heapL_i : Items := [(.tmp 0, .own 28 (.slice (.int .i64))), (.tmp 1, .di), (.tmp 2, .di), (.tmp 3, .clo 84 [])]
abbrev heapL_o : Items := [(.obj 0, .own 28 (.slice (.int .i64)))]
abbrev heapL_r : List RS := []
abbrev heapL_i1 : Items := [(.obj 0, .own 28 (.slice (.int .i64))), (.tmp 0, .own' 0), (.tmp 3, .clo 84 []), (.tmp 8, .di), (.tmp 9, .di), (.tmp 12, .di)]
abbrev heapL_o1 : Outs := [(.exit 2, [(.obj 0, .own 28 (.slice (.int .i64)))])]
def heapL_s1 [Lk] : (List (List Int) × Int × Int × Int × Unit) → Option ((List (List Int) × Int × Int × Int × Unit) ⊕ (List (List Int) × Unit) ⊕ Unit) := fun (a0, a1, a2, a3, _) =>
 match (ile 0 a3) with
 | true => match idx a0 (IntKind.wrap .i64 (a1 + a3)) with
  | none => none
  | some x0 => match idx a0 a1 with
   | none => none
   | some x1 => match idx a0 a1 with
    | none => none
    | some x2 => match idx (dset a0 (dnat a1) (dget a0 (dnat (IntKind.wrap .i64 (a1 + a3))) ([] : List (Int)))) (IntKind.wrap .i64 (a1 + a3)) with
     | none => none
     | some x3 => match siftL ((dset (dset a0 (dnat a1) (dget a0 (dnat (IntKind.wrap .i64 (a1 + a3))) ([] : List (Int)))) (dnat (IntKind.wrap .i64 (a1 + a3))) (dget a0 (dnat a1) ([] : List (Int)))), a2, a3, a1, ()) with
      | none => none
      | some (y4, _) => some (.inl (y4, a1, a2, (IntKind.wrap .i64 (a3 - 1)), ()))
 | false => some (.inr (.inl (a0, ())))
abbrev heapL_i0 : Items := [(.obj 0, .own 28 (.slice (.int .i64))), (.tmp 0, .own' 0), (.tmp 3, .clo 84 []), (.tmp 8, .di), (.tmp 9, .di), (.tmp 10, .di), (.tmp 11, .di)]
abbrev heapL_o0 : Outs := [(.exit 0, [(.obj 0, .own 28 (.slice (.int .i64))), (.tmp 0, .own' 0), (.tmp 3, .clo 84 []), (.tmp 8, .di), (.tmp 9, .di), (.tmp 10, .di)])]
def heapL_s0 [Lk] : (List (List Int) × Int × Int × Int × Int × Unit) → Option ((List (List Int) × Int × Int × Int × Int × Unit) ⊕ (List (List Int) × Int × Int × Int × Unit) ⊕ Unit) := fun (a0, a1, a2, a3, a4, _) =>
 match (ile 0 a4) with
 | true => match siftL (a0, a4, a3, a1, ()) with
  | none => none
  | some (y0, _) => some (.inl (y0, a1, a2, a3, (IntKind.wrap .i64 (a4 - 1)), ()))
 | false => some (.inr (.inl (a0, a1, a2, a3, ())))
def heapL_d [Lk] : (List (List Int) × Int × Int × Unit) → Option ((List (List Int) × Unit)) := fun (a0, a1, a2, _) =>
 match quo? .i64 (IntKind.wrap .i64 ((IntKind.wrap .i64 (a2 - a1)) - 1)) 2 with
 | none => none
 | some x0 => match iterL heapL_s0 many (a0, a1, 0, (IntKind.wrap .i64 (a2 - a1)), x0, ()) with
  | none => none
  | some r => match r with
   | .inl (o1, o2, o3, o4, _) => match iterL heapL_s1 many (o1, o2, o3, (IntKind.wrap .i64 (o4 - 1)), ()) with
    | none => none
    | some r => match r with
     | .inl (o5, _) => some (o5, ())
     | .inr _ => none
   | .inr _ => none
def heapL [Lk] := fun v => Lk.f (heapL_d v)
theorem heapL_eq v : heapL v = heapL_d v := lock_eq _
-- slices.breakPatternsCmpFunc[[]int]
abbrev breakL_i : Items := [(.tmp 0, .own 28 (.slice (.int .i64))), (.tmp 1, .di), (.tmp 2, .di), (.tmp 3, .clo 84 [])]
abbrev breakL_o : Items := [(.obj 0, .own 28 (.slice (.int .i64)))]
abbrev breakL_r : List RS := []
abbrev breakL_i0 : Items := [(.obj 0, .own 28 (.slice (.int .i64))), (.tmp 0, .own' 0), (.tmp 1, .di), (.tmp 8, .di), (.tmp 9, .box 1), (.cell 1 0, .dat (.int .u64)), (.tmp 10, .dat (.int .u64)), (.tmp 11, .di)]
abbrev breakL_o0 : Outs := [(.exit 0, [(.obj 0, .own 28 (.slice (.int .i64)))])]
def breakL_s0 [Lk] : (List (List Int) × Int × Int × Int × Int × Int × Unit) → Option ((List (List Int) × Int × Int × Int × Int × Int × Unit) ⊕ (List (List Int) × Unit) ⊕ Unit) := fun (a0, a1, a2, a3, a4, a5, _) =>
 match quo? .i64 a2 4 with
 | none => none
 | some x0 => match (ile a5 (IntKind.wrap .i64 ((IntKind.wrap .i64 (a1 + (IntKind.wrap .i64 (x0 * 2)))) + 1))) with
  | true => match xorNext (a3, ()) with
   | none => none
   | some (y1, y2, _) => match (ile a2 (IntKind.wrap .i64 (IntKind.wrap .u64 ((BitVec.ofInt (IntKind.bits .u64) y2 &&& BitVec.ofInt (IntKind.bits .u64) (IntKind.wrap .u64 (a4 - 1))).toNat)))) with
    | true => match idx a0 (IntKind.wrap .i64 (a1 + (IntKind.wrap .i64 ((IntKind.wrap .i64 (IntKind.wrap .u64 ((BitVec.ofInt (IntKind.bits .u64) y2 &&& BitVec.ofInt (IntKind.bits .u64) (IntKind.wrap .u64 (a4 - 1))).toNat))) - a2)))) with
     | none => none
     | some x3 => match idx a0 a5 with
      | none => none
      | some x4 => match idx a0 a5 with
       | none => none
       | some x5 => match idx (dset a0 (dnat a5) (dget a0 (dnat (IntKind.wrap .i64 (a1 + (IntKind.wrap .i64 ((IntKind.wrap .i64 (IntKind.wrap .u64 ((BitVec.ofInt (IntKind.bits .u64) y2 &&& BitVec.ofInt (IntKind.bits .u64) (IntKind.wrap .u64 (a4 - 1))).toNat))) - a2))))) ([] : List (Int)))) (IntKind.wrap .i64 (a1 + (IntKind.wrap .i64 ((IntKind.wrap .i64 (IntKind.wrap .u64 ((BitVec.ofInt (IntKind.bits .u64) y2 &&& BitVec.ofInt (IntKind.bits .u64) (IntKind.wrap .u64 (a4 - 1))).toNat))) - a2)))) with
        | none => none
        | some x6 => some (.inl ((dset (dset a0 (dnat a5) (dget a0 (dnat (IntKind.wrap .i64 (a1 + (IntKind.wrap .i64 ((IntKind.wrap .i64 (IntKind.wrap .u64 ((BitVec.ofInt (IntKind.bits .u64) y2 &&& BitVec.ofInt (IntKind.bits .u64) (IntKind.wrap .u64 (a4 - 1))).toNat))) - a2))))) ([] : List (Int)))) (dnat (IntKind.wrap .i64 (a1 + (IntKind.wrap .i64 ((IntKind.wrap .i64 (IntKind.wrap .u64 ((BitVec.ofInt (IntKind.bits .u64) y2 &&& BitVec.ofInt (IntKind.bits .u64) (IntKind.wrap .u64 (a4 - 1))).toNat))) - a2))))) (dget a0 (dnat a5) ([] : List (Int)))), a1, a2, y1, a4, (IntKind.wrap .i64 (a5 + 1)), ()))
    | false => match idx a0 (IntKind.wrap .i64 (a1 + (IntKind.wrap .i64 (IntKind.wrap .u64 ((BitVec.ofInt (IntKind.bits .u64) y2 &&& BitVec.ofInt (IntKind.bits .u64) (IntKind.wrap .u64 (a4 - 1))).toNat))))) with
     | none => none
     | some x7 => match idx a0 a5 with
      | none => none
      | some x8 => match idx a0 a5 with
       | none => none
       | some x9 => match idx (dset a0 (dnat a5) (dget a0 (dnat (IntKind.wrap .i64 (a1 + (IntKind.wrap .i64 (IntKind.wrap .u64 ((BitVec.ofInt (IntKind.bits .u64) y2 &&& BitVec.ofInt (IntKind.bits .u64) (IntKind.wrap .u64 (a4 - 1))).toNat)))))) ([] : List (Int)))) (IntKind.wrap .i64 (a1 + (IntKind.wrap .i64 (IntKind.wrap .u64 ((BitVec.ofInt (IntKind.bits .u64) y2 &&& BitVec.ofInt (IntKind.bits .u64) (IntKind.wrap .u64 (a4 - 1))).toNat))))) with
        | none => none
        | some x10 => some (.inl ((dset (dset a0 (dnat a5) (dget a0 (dnat (IntKind.wrap .i64 (a1 + (IntKind.wrap .i64 (IntKind.wrap .u64 ((BitVec.ofInt (IntKind.bits .u64) y2 &&& BitVec.ofInt (IntKind.bits .u64) (IntKind.wrap .u64 (a4 - 1))).toNat)))))) ([] : List (Int)))) (dnat (IntKind.wrap .i64 (a1 + (IntKind.wrap .i64 (IntKind.wrap .u64 ((BitVec.ofInt (IntKind.bits .u64) y2 &&& BitVec.ofInt (IntKind.bits .u64) (IntKind.wrap .u64 (a4 - 1))).toNat)))))) (dget a0 (dnat a5) ([] : List (Int)))), a1, a2, y1, a4, (IntKind.wrap .i64 (a5 + 1)), ()))
  | false => some (.inr (.inl (a0, ())))
def breakL_d [Lk] : (List (List Int) × Int × Int × Unit) → Option ((List (List Int) × Unit)) := fun (a0, a1, a2, _) =>
 match (ile 8 (IntKind.wrap .i64 (a2 - a1))) with
 | true => match nextPow ((IntKind.wrap .i64 (a2 - a1)), ()) with
  | none => none
  | some (y0, _) => match quo? .i64 (IntKind.wrap .i64 (a2 - a1)) 4 with
   | none => none
   | some x1 => match iterL breakL_s0 many (a0, a1, (IntKind.wrap .i64 (a2 - a1)), (IntKind.wrap .u64 (IntKind.wrap .i64 (a2 - a1))), y0, (IntKind.wrap .i64 ((IntKind.wrap .i64 (a1 + (IntKind.wrap .i64 (x1 * 2)))) - 1)), ()) with
    | none => none
    | some r => match r with
     | .inl (o2, _) => some (o2, ())
     | .inr _ => none
 | false => some (a0, ())
def breakL [Lk] := fun v => Lk.f (breakL_d v)
theorem breakL_eq v : breakL v = breakL_d v := lock_eq _
-- slices.order2CmpFunc[[]int]
abbrev order2L_i : Items := [(.tmp 0, .own 28 (.slice (.int .i64))), (.tmp 1, .di), (.tmp 2, .di), (.tmp 3, .box 1), (.cell 1 0, .di), (.tmp 4, .clo 84 [])]
abbrev order2L_o : Items := [(.obj 0, .own 28 (.slice (.int .i64))), (.obj 1, .box 1), (.cell 1 0, .di), (.tmp 0, .di), (.tmp 1, .di)]
abbrev order2L_r : List RS := [.one, .one]
def order2L_d [Lk] : (List (List Int) × Int × Int × Int × Unit) → Option ((List (List Int) × Int × Int × Int × Unit)) := fun (a0, a1, a2, a3, _) =>
 match idx a0 a2 with
 | none => none
 | some x0 => match idx a0 a1 with
  | none => none
  | some x1 => match with1 ((dget a0 (dnat a2) ([] : List (Int))), (dget a0 (dnat a1) ([] : List (Int))), ()) with
   | none => none
   | some (y2, _) => match (ilt y2 0) with
    | true => some (a0, (IntKind.wrap .i64 (a3 + 1)), a2, a1, ())
    | false => some (a0, a3, a1, a2, ())
def order2L [Lk] := fun v => Lk.f (order2L_d v)
theorem order2L_eq v : order2L v = order2L_d v := lock_eq _
-- slices.medianCmpFunc[[]int]
abbrev medianL_i : Items := [(.tmp 0, .own 28 (.slice (.int .i64))), (.tmp 1, .di), (.tmp 2, .di), (.tmp 3, .di), (.tmp 4, .box 1), (.cell 1 0, .di), (.tmp 5, .clo 84 [])]
abbrev medianL_o : Items := [(.obj 0, .own 28 (.slice (.int .i64))), (.obj 1, .box 1), (.cell 1 0, .di), (.tmp 0, .di)]
abbrev medianL_r : List RS := [.one]
def medianL_d [Lk] : (List (List Int) × Int × Int × Int × Int × Unit) → Option ((List (List Int) × Int × Int × Unit)) := fun (a0, a1, a2, a3, a4, _) =>
 match order2L (a0, a1, a2, a4, ()) with
 | none => none
 | some (y0, y1, y2, y3, _) => match order2L (y0, y3, a3, y1, ()) with
  | none => none
  | some (y4, y5, y6, y7, _) => match order2L (y4, y2, y6, y5, ()) with
   | none => none
   | some (y8, y9, y10, y11, _) => some (y8, y9, y11, ())
def medianL [Lk] := fun v => Lk.f (medianL_d v)
theorem medianL_eq v : medianL v = medianL_d v := lock_eq _
-- slices.medianAdjacentCmpFunc[[]int]
abbrev medAdjL_i : Items := [(.tmp 0, .own 28 (.slice (.int .i64))), (.tmp 1, .di), (.tmp 2, .box 1), (.cell 1 0, .di), (.tmp 3, .clo 84 [])]
abbrev medAdjL_o : Items := [(.obj 0, .own 28 (.slice (.int .i64))), (.obj 1, .box 1), (.cell 1 0, .di), (.tmp 0, .di)]
abbrev medAdjL_r : List RS := [.one]
def medAdjL_d [Lk] : (List (List Int) × Int × Int × Unit) → Option ((List (List Int) × Int × Int × Unit)) := fun (a0, a1, a2, _) =>
 match medianL (a0, (IntKind.wrap .i64 (a1 - 1)), a1, (IntKind.wrap .i64 (a1 + 1)), a2, ()) with
 | none => none
 | some (y0, y1, y2, _) => some (y0, y1, y2, ())
def medAdjL [Lk] := fun v => Lk.f (medAdjL_d v)
theorem medAdjL_eq v : medAdjL v = medAdjL_d v := lock_eq _
-- slices.choosePivotCmpFunc[[]int]
abbrev pivotL_i : Items := [(.tmp 0, .own 28 (.slice (.int .i64))), (.tmp 1, .di), (.tmp 2, .di), (.tmp 3, .clo 84 [])]
abbrev pivotL_o : Items := [(.obj 0, .own 28 (.slice (.int .i64))), (.tmp 0, .di), (.tmp 1, .di)]
abbrev pivotL_r : List RS := [.one, .one]
def pivotL_d [Lk] : (List (List Int) × Int × Int × Unit) → Option ((List (List Int) × Int × Int × Unit)) := fun (a0, a1, a2, _) =>
 match quo? .i64 (IntKind.wrap .i64 (a2 - a1)) 4 with
 | none => none
 | some x0 => match quo? .i64 (IntKind.wrap .i64 (a2 - a1)) 4 with
  | none => none
  | some x1 => match quo? .i64 (IntKind.wrap .i64 (a2 - a1)) 4 with
   | none => none
   | some x2 => match (ile 8 (IntKind.wrap .i64 (a2 - a1))) with
    | true => match (ile 50 (IntKind.wrap .i64 (a2 - a1))) with
     | true => match medAdjL (a0, (IntKind.wrap .i64 (a1 + (IntKind.wrap .i64 (x0 * 1)))), 0, ()) with
      | none => none
      | some (y3, y4, y5, _) => match medAdjL (y3, (IntKind.wrap .i64 (a1 + (IntKind.wrap .i64 (x1 * 2)))), y4, ()) with
       | none => none
       | some (y6, y7, y8, _) => match medAdjL (y6, (IntKind.wrap .i64 (a1 + (IntKind.wrap .i64 (x2 * 3)))), y7, ()) with
        | none => none
        | some (y9, y10, y11, _) => match medianL (y9, y5, y8, y11, y10, ()) with
         | none => none
         | some (y12, y13, y14, _) => match (ieq y13 0) with
          | true => some (y12, y14, 1, ())
          | false => match (ieq y13 12) with
           | true => some (y12, y14, 2, ())
           | false => some (y12, y14, 0, ())
     | false => match medianL (a0, (IntKind.wrap .i64 (a1 + (IntKind.wrap .i64 (x0 * 1)))), (IntKind.wrap .i64 (a1 + (IntKind.wrap .i64 (x1 * 2)))), (IntKind.wrap .i64 (a1 + (IntKind.wrap .i64 (x2 * 3)))), 0, ()) with
      | none => none
      | some (y15, y16, y17, _) => match (ieq y16 0) with
       | true => some (y15, y17, 1, ())
       | false => match (ieq y16 12) with
        | true => some (y15, y17, 2, ())
        | false => some (y15, y17, 0, ())
    | false => match (ieq 0 0) with
     | true => some (a0, (IntKind.wrap .i64 (a1 + (IntKind.wrap .i64 (x1 * 2)))), 1, ())
     | false => match (ieq 0 12) with
      | true => some (a0, (IntKind.wrap .i64 (a1 + (IntKind.wrap .i64 (x1 * 2)))), 2, ())
      | false => some (a0, (IntKind.wrap .i64 (a1 + (IntKind.wrap .i64 (x1 * 2)))), 0, ())
def pivotL [Lk] := fun v => Lk.f (pivotL_d v)
theorem pivotL_eq v : pivotL v = pivotL_d v := lock_eq _
-- slices.reverseRangeCmpFunc[[]int]
abbrev revL_i : Items := [(.tmp 0, .own 28 (.slice (.int .i64))), (.tmp 1, .di), (.tmp 2, .di), (.tmp 3, .clo 84 [])]
abbrev revL_o : Items := [(.obj 0, .own 28 (.slice (.int .i64)))]
abbrev revL_r : List RS := []
abbrev revL_i0 : Items := [(.obj 0, .own 28 (.slice (.int .i64))), (.tmp 0, .own' 0), (.tmp 8, .di), (.tmp 9, .di)]
abbrev revL_o0 : Outs := [(.exit 0, [(.obj 0, .own 28 (.slice (.int .i64)))])]
def revL_s0 [Lk] : (List (List Int) × Int × Int × Unit) → Option ((List (List Int) × Int × Int × Unit) ⊕ (List (List Int) × Unit) ⊕ Unit) := fun (a0, a1, a2, _) =>
 match (ilt a1 a2) with
 | true => match idx a0 a2 with
  | none => none
  | some x0 => match idx a0 a1 with
   | none => none
   | some x1 => match idx a0 a1 with
    | none => none
    | some x2 => match idx (dset a0 (dnat a1) (dget a0 (dnat a2) ([] : List (Int)))) a2 with
     | none => none
     | some x3 => some (.inl ((dset (dset a0 (dnat a1) (dget a0 (dnat a2) ([] : List (Int)))) (dnat a2) (dget a0 (dnat a1) ([] : List (Int)))), (IntKind.wrap .i64 (a1 + 1)), (IntKind.wrap .i64 (a2 - 1)), ()))
 | false => some (.inr (.inl (a0, ())))
def revL_d [Lk] : (List (List Int) × Int × Int × Unit) → Option ((List (List Int) × Unit)) := fun (a0, a1, a2, _) =>
 match iterL revL_s0 many (a0, a1, (IntKind.wrap .i64 (a2 - 1)), ()) with
 | none => none
 | some r => match r with
  | .inl (o0, _) => some (o0, ())
  | .inr _ => none
def revL [Lk] := fun v => Lk.f (revL_d v)
theorem revL_eq v : revL v = revL_d v := lock_eq _
-- slices.partialInsertionSortCmpFunc[[]int]
abbrev partInsL_i : Items := [(.tmp 0, .own 28 (.slice (.int .i64))), (.tmp 1, .di), (.tmp 2, .di), (.tmp 3, .clo 84 [])]
abbrev partInsL_o : Items := [(.obj 0, .own 28 (.slice (.int .i64))), (.tmp 0, .dat .bool)]
abbrev partInsL_r : List RS := [.one]
abbrev partInsL_i3 : Items := [(.obj 0, .own 28 (.slice (.int .i64))), (.tmp 0, .own' 0), (.tmp 1, .di), (.tmp 2, .di), (.tmp 3, .clo 84 []), (.tmp 9, .di), (.tmp 10, .di), (.tmp 12, .di)]
abbrev partInsL_o3 : Outs := [(.exit 6, [(.obj 0, .own 28 (.slice (.int .i64))), (.tmp 0, .own' 0), (.tmp 1, .di), (.tmp 2, .di), (.tmp 3, .clo 84 []), (.tmp 9, .di), (.tmp 10, .di)])]
def partInsL_s3 [Lk] : (List (List Int) × Int × Int × Int × Int × Int × Unit) → Option ((List (List Int) × Int × Int × Int × Int × Int × Unit) ⊕ (List (List Int) × Int × Int × Int × Int × Unit) ⊕ Unit) := fun (a0, a1, a2, a3, a4, a5, _) =>
 match (ilt a5 a2) with
 | true => match idx a0 a5 with
  | none => none
  | some x0 => match idx a0 (IntKind.wrap .i64 (a5 - 1)) with
   | none => none
   | some x1 => match with1 ((dget a0 (dnat a5) ([] : List (Int))), (dget a0 (dnat (IntKind.wrap .i64 (a5 - 1))) ([] : List (Int))), ()) with
    | none => none
    | some (y2, _) => match (!(ilt y2 0)) with
     | true => some (.inr (.inl (a0, a1, a2, a3, a4, ())))
     | false => match idx a0 (IntKind.wrap .i64 (a5 - 1)) with
      | none => none
      | some x3 => match idx a0 a5 with
       | none => none
       | some x4 => match idx a0 a5 with
        | none => none
        | some x5 => match idx (dset a0 (dnat a5) (dget a0 (dnat (IntKind.wrap .i64 (a5 - 1))) ([] : List (Int)))) (IntKind.wrap .i64 (a5 - 1)) with
         | none => none
         | some x6 => some (.inl ((dset (dset a0 (dnat a5) (dget a0 (dnat (IntKind.wrap .i64 (a5 - 1))) ([] : List (Int)))) (dnat (IntKind.wrap .i64 (a5 - 1))) (dget a0 (dnat a5) ([] : List (Int)))), a1, a2, a3, a4, (IntKind.wrap .i64 (a5 + 1)), ()))
 | false => some (.inr (.inl (a0, a1, a2, a3, a4, ())))
abbrev partInsL_i2 : Items := [(.obj 0, .own 28 (.slice (.int .i64))), (.tmp 0, .own' 0), (.tmp 1, .di), (.tmp 2, .di), (.tmp 3, .clo 84 []), (.tmp 9, .di), (.tmp 10, .di), (.tmp 11, .di)]
abbrev partInsL_o2 : Outs := [(.exit 4, [(.obj 0, .own 28 (.slice (.int .i64))), (.tmp 0, .own' 0), (.tmp 1, .di), (.tmp 2, .di), (.tmp 3, .clo 84 []), (.tmp 9, .di), (.tmp 10, .di)])]
def partInsL_s2 [Lk] : (List (List Int) × Int × Int × Int × Int × Int × Unit) → Option ((List (List Int) × Int × Int × Int × Int × Int × Unit) ⊕ (List (List Int) × Int × Int × Int × Int × Unit) ⊕ Unit) := fun (a0, a1, a2, a3, a4, a5, _) =>
 match (ile 1 a5) with
 | true => match idx a0 a5 with
  | none => none
  | some x0 => match idx a0 (IntKind.wrap .i64 (a5 - 1)) with
   | none => none
   | some x1 => match with1 ((dget a0 (dnat a5) ([] : List (Int))), (dget a0 (dnat (IntKind.wrap .i64 (a5 - 1))) ([] : List (Int))), ()) with
    | none => none
    | some (y2, _) => match (!(ilt y2 0)) with
     | true => some (.inr (.inl (a0, a1, a2, a3, a4, ())))
     | false => match idx a0 (IntKind.wrap .i64 (a5 - 1)) with
      | none => none
      | some x3 => match idx a0 a5 with
       | none => none
       | some x4 => match idx a0 a5 with
        | none => none
        | some x5 => match idx (dset a0 (dnat a5) (dget a0 (dnat (IntKind.wrap .i64 (a5 - 1))) ([] : List (Int)))) (IntKind.wrap .i64 (a5 - 1)) with
         | none => none
         | some x6 => some (.inl ((dset (dset a0 (dnat a5) (dget a0 (dnat (IntKind.wrap .i64 (a5 - 1))) ([] : List (Int)))) (dnat (IntKind.wrap .i64 (a5 - 1))) (dget a0 (dnat a5) ([] : List (Int)))), a1, a2, a3, a4, (IntKind.wrap .i64 (a5 - 1)), ()))
 | false => some (.inr (.inl (a0, a1, a2, a3, a4, ())))
abbrev partInsL_i1 : Items := [(.obj 0, .own 28 (.slice (.int .i64))), (.tmp 0, .own' 0), (.tmp 1, .di), (.tmp 2, .di), (.tmp 3, .clo 84 []), (.tmp 9, .di), (.tmp 10, .di)]
abbrev partInsL_o1 : Outs := [(.exit 2, [(.obj 0, .own 28 (.slice (.int .i64))), (.tmp 0, .own' 0), (.tmp 1, .di), (.tmp 2, .di), (.tmp 3, .clo 84 []), (.tmp 9, .di), (.tmp 10, .di)])]
def partInsL_s1 [Lk] : (List (List Int) × Int × Int × Int × Int × Unit) → Option ((List (List Int) × Int × Int × Int × Int × Unit) ⊕ (List (List Int) × Int × Int × Int × Int × Unit) ⊕ Unit) := fun (a0, a1, a2, a3, a4, _) =>
 match (ilt a3 a2) with
 | true => match idx a0 a3 with
  | none => none
  | some x0 => match idx a0 (IntKind.wrap .i64 (a3 - 1)) with
   | none => none
   | some x1 => match with1 ((dget a0 (dnat a3) ([] : List (Int))), (dget a0 (dnat (IntKind.wrap .i64 (a3 - 1))) ([] : List (Int))), ()) with
    | none => none
    | some (y2, _) => match (!(ilt y2 0)) with
     | true => some (.inl (a0, a1, a2, (IntKind.wrap .i64 (a3 + 1)), a4, ()))
     | false => some (.inr (.inl (a0, a1, a2, a3, a4, ())))
 | false => some (.inr (.inl (a0, a1, a2, a3, a4, ())))
abbrev partInsL_i0 : Items := [(.obj 0, .own 28 (.slice (.int .i64))), (.tmp 0, .own' 0), (.tmp 1, .di), (.tmp 2, .di), (.tmp 3, .clo 84 []), (.tmp 9, .di), (.tmp 10, .di)]
abbrev partInsL_o0 : Outs := [(.ret, [(.obj 0, .own 28 (.slice (.int .i64))), (.tmp 8, .dat .bool)]), (.exit 0, [(.obj 0, .own 28 (.slice (.int .i64)))])]
def partInsL_s0 [Lk] : (List (List Int) × Int × Int × Int × Int × Unit) → Option ((List (List Int) × Int × Int × Int × Int × Unit) ⊕ (List (List Int) × Bool × Unit) ⊕ (List (List Int) × Unit) ⊕ Unit) := fun (a0, a1, a2, a3, a4, _) =>
 match (ilt a4 5) with
 | true => match iterL partInsL_s1 many (a0, a1, a2, a3, a4, ()) with
  | none => none
  | some r => match r with
   | .inl (o0, o1, o2, o3, o4, _) => match (ieq o3 o2) with
    | true => some (.inr (.inl (o0, true, ())))
    | false => match (ilt (IntKind.wrap .i64 (o2 - o1)) 50) with
     | true => some (.inr (.inl (o0, false, ())))
     | false => match idx o0 (IntKind.wrap .i64 (o3 - 1)) with
      | none => none
      | some x5 => match idx o0 o3 with
       | none => none
       | some x6 => match idx o0 o3 with
        | none => none
        | some x7 => match idx (dset o0 (dnat o3) (dget o0 (dnat (IntKind.wrap .i64 (o3 - 1))) ([] : List (Int)))) (IntKind.wrap .i64 (o3 - 1)) with
         | none => none
         | some x8 => match (ile 2 (IntKind.wrap .i64 (o3 - o1))) with
          | true => match iterL partInsL_s2 many ((dset (dset o0 (dnat o3) (dget o0 (dnat (IntKind.wrap .i64 (o3 - 1))) ([] : List (Int)))) (dnat (IntKind.wrap .i64 (o3 - 1))) (dget o0 (dnat o3) ([] : List (Int)))), o1, o2, o3, o4, (IntKind.wrap .i64 (o3 - 1)), ()) with
           | none => none
           | some r => match r with
            | .inl (o9, o10, o11, o12, o13, _) => match (ile 2 (IntKind.wrap .i64 (o11 - o12))) with
             | true => match iterL partInsL_s3 many (o9, o10, o11, o12, o13, (IntKind.wrap .i64 (o12 + 1)), ()) with
              | none => none
              | some r => match r with
               | .inl (o14, o15, o16, o17, o18, _) => some (.inl (o14, o15, o16, o17, (IntKind.wrap .i64 (o18 + 1)), ()))
               | .inr _ => none
             | false => some (.inl (o9, o10, o11, o12, (IntKind.wrap .i64 (o13 + 1)), ()))
            | .inr _ => none
          | false => match (ile 2 (IntKind.wrap .i64 (o2 - o3))) with
           | true => match iterL partInsL_s3 many ((dset (dset o0 (dnat o3) (dget o0 (dnat (IntKind.wrap .i64 (o3 - 1))) ([] : List (Int)))) (dnat (IntKind.wrap .i64 (o3 - 1))) (dget o0 (dnat o3) ([] : List (Int)))), o1, o2, o3, o4, (IntKind.wrap .i64 (o3 + 1)), ()) with
            | none => none
            | some r => match r with
             | .inl (o19, o20, o21, o22, o23, _) => some (.inl (o19, o20, o21, o22, (IntKind.wrap .i64 (o23 + 1)), ()))
             | .inr _ => none
           | false => some (.inl ((dset (dset o0 (dnat o3) (dget o0 (dnat (IntKind.wrap .i64 (o3 - 1))) ([] : List (Int)))) (dnat (IntKind.wrap .i64 (o3 - 1))) (dget o0 (dnat o3) ([] : List (Int)))), o1, o2, o3, (IntKind.wrap .i64 (o4 + 1)), ()))
   | .inr _ => none
 | false => some (.inr (.inr (.inl (a0, ()))))
def partInsL_d [Lk] : (List (List Int) × Int × Int × Unit) → Option ((List (List Int) × Bool × Unit)) := fun (a0, a1, a2, _) =>
 match iterL partInsL_s0 many (a0, a1, a2, (IntKind.wrap .i64 (a1 + 1)), 0, ()) with
 | none => none
 | some r => match r with
  | .inl (o0, o1, _) => some (o0, o1, ())
  | .inr r => match r with
   | .inl (o2, _) => some (o2, false, ())
   | .inr _ => none
def partInsL [Lk] := fun v => Lk.f (partInsL_d v)
theorem partInsL_eq v : partInsL v = partInsL_d v := lock_eq _
-- slices.partitionEqualCmpFunc[[]int]
abbrev partEqL_i : Items := [(.tmp 0, .own 28 (.slice (.int .i64))), (.tmp 1, .di), (.tmp 2, .di), (.tmp 3, .di), (.tmp 4, .clo 84 [])]
abbrev partEqL_o : Items := [(.obj 0, .own 28 (.slice (.int .i64))), (.tmp 0, .di)]
abbrev partEqL_r : List RS := [.one]
abbrev partEqL_i2 : Items := [(.obj 0, .own 28 (.slice (.int .i64))), (.tmp 0, .own' 0), (.tmp 1, .di), (.tmp 4, .clo 84 []), (.tmp 11, .di), (.tmp 12, .di)]
abbrev partEqL_o2 : Outs := [(.exit 4, [(.obj 0, .own 28 (.slice (.int .i64))), (.tmp 0, .own' 0), (.tmp 1, .di), (.tmp 4, .clo 84 []), (.tmp 11, .di), (.tmp 12, .di)])]
def partEqL_s2 [Lk] : (List (List Int) × Int × Int × Int × Unit) → Option ((List (List Int) × Int × Int × Int × Unit) ⊕ (List (List Int) × Int × Int × Int × Unit) ⊕ Unit) := fun (a0, a1, a2, a3, _) =>
 match (ile a2 a3) with
 | true => match idx a0 a1 with
  | none => none
  | some x0 => match idx a0 a3 with
   | none => none
   | some x1 => match with1 ((dget a0 (dnat a1) ([] : List (Int))), (dget a0 (dnat a3) ([] : List (Int))), ()) with
    | none => none
    | some (y2, _) => match (ilt y2 0) with
     | true => some (.inl (a0, a1, a2, (IntKind.wrap .i64 (a3 - 1)), ()))
     | false => some (.inr (.inl (a0, a1, a2, a3, ())))
 | false => some (.inr (.inl (a0, a1, a2, a3, ())))
abbrev partEqL_i1 : Items := [(.obj 0, .own 28 (.slice (.int .i64))), (.tmp 0, .own' 0), (.tmp 1, .di), (.tmp 4, .clo 84 []), (.tmp 11, .di), (.tmp 12, .di)]
abbrev partEqL_o1 : Outs := [(.exit 2, [(.obj 0, .own 28 (.slice (.int .i64))), (.tmp 0, .own' 0), (.tmp 1, .di), (.tmp 4, .clo 84 []), (.tmp 11, .di), (.tmp 12, .di)])]
def partEqL_s1 [Lk] : (List (List Int) × Int × Int × Int × Unit) → Option ((List (List Int) × Int × Int × Int × Unit) ⊕ (List (List Int) × Int × Int × Int × Unit) ⊕ Unit) := fun (a0, a1, a2, a3, _) =>
 match (ile a2 a3) with
 | true => match idx a0 a1 with
  | none => none
  | some x0 => match idx a0 a2 with
   | none => none
   | some x1 => match with1 ((dget a0 (dnat a1) ([] : List (Int))), (dget a0 (dnat a2) ([] : List (Int))), ()) with
    | none => none
    | some (y2, _) => match (!(ilt y2 0)) with
     | true => some (.inl (a0, a1, (IntKind.wrap .i64 (a2 + 1)), a3, ()))
     | false => some (.inr (.inl (a0, a1, a2, a3, ())))
 | false => some (.inr (.inl (a0, a1, a2, a3, ())))
abbrev partEqL_i0 : Items := [(.obj 0, .own 28 (.slice (.int .i64))), (.tmp 0, .own' 0), (.tmp 1, .di), (.tmp 4, .clo 84 []), (.tmp 11, .di), (.tmp 12, .di)]
abbrev partEqL_o0 : Outs := [(.exit 0, [(.obj 0, .own 28 (.slice (.int .i64))), (.tmp 11, .di)])]
def partEqL_s0 [Lk] : (List (List Int) × Int × Int × Int × Unit) → Option ((List (List Int) × Int × Int × Int × Unit) ⊕ (List (List Int) × Int × Unit) ⊕ Unit) := fun (a0, a1, a2, a3, _) =>
 match iterL partEqL_s1 many (a0, a1, a2, a3, ()) with
 | none => none
 | some r => match r with
  | .inl (o0, o1, o2, o3, _) => match iterL partEqL_s2 many (o0, o1, o2, o3, ()) with
   | none => none
   | some r => match r with
    | .inl (o4, o5, o6, o7, _) => match (ilt o7 o6) with
     | true => some (.inr (.inl (o4, o6, ())))
     | false => match idx o4 o7 with
      | none => none
      | some x8 => match idx o4 o6 with
       | none => none
       | some x9 => match idx o4 o6 with
        | none => none
        | some x10 => match idx (dset o4 (dnat o6) (dget o4 (dnat o7) ([] : List (Int)))) o7 with
         | none => none
         | some x11 => some (.inl ((dset (dset o4 (dnat o6) (dget o4 (dnat o7) ([] : List (Int)))) (dnat o7) (dget o4 (dnat o6) ([] : List (Int)))), o5, (IntKind.wrap .i64 (o6 + 1)), (IntKind.wrap .i64 (o7 - 1)), ()))
    | .inr _ => none
  | .inr _ => none
def partEqL_d [Lk] : (List (List Int) × Int × Int × Int × Unit) → Option ((List (List Int) × Int × Unit)) := fun (a0, a1, a2, a3, _) =>
 match idx a0 a3 with
 | none => none
 | some x0 => match idx a0 a1 with
  | none => none
  | some x1 => match idx a0 a1 with
   | none => none
   | some x2 => match idx (dset a0 (dnat a1) (dget a0 (dnat a3) ([] : List (Int)))) a3 with
    | none => none
    | some x3 => match iterL partEqL_s0 many ((dset (dset a0 (dnat a1) (dget a0 (dnat a3) ([] : List (Int)))) (dnat a3) (dget a0 (dnat a1) ([] : List (Int)))), a1, (IntKind.wrap .i64 (a1 + 1)), (IntKind.wrap .i64 (a2 - 1)), ()) with
     | none => none
     | some r => match r with
      | .inl (o4, o5, _) => some (o4, o5, ())
      | .inr _ => none
def partEqL [Lk] := fun v => Lk.f (partEqL_d v)
theorem partEqL_eq v : partEqL v = partEqL_d v := lock_eq _
-- slices.partitionCmpFunc[[]int]
abbrev partL_i : Items := [(.tmp 0, .own 28 (.slice (.int .i64))), (.tmp 1, .di), (.tmp 2, .di), (.tmp 3, .di), (.tmp 4, .clo 84 [])]
abbrev partL_o : Items := [(.obj 0, .own 28 (.slice (.int .i64))), (.tmp 0, .di), (.tmp 1, .dat .bool)]
abbrev partL_r : List RS := [.one, .one]
abbrev partL_i4 : Items := [(.obj 0, .own 28 (.slice (.int .i64))), (.tmp 0, .own' 0), (.tmp 1, .di), (.tmp 4, .clo 84 []), (.tmp 12, .di), (.tmp 13, .di)]
abbrev partL_o4 : Outs := [(.exit 8, [(.obj 0, .own 28 (.slice (.int .i64))), (.tmp 0, .own' 0), (.tmp 1, .di), (.tmp 4, .clo 84 []), (.tmp 12, .di), (.tmp 13, .di)])]
def partL_s4 [Lk] : (List (List Int) × Int × Int × Int × Unit) → Option ((List (List Int) × Int × Int × Int × Unit) ⊕ (List (List Int) × Int × Int × Int × Unit) ⊕ Unit) := fun (a0, a1, a2, a3, _) =>
 match (ile a2 a3) with
 | true => match idx a0 a3 with
  | none => none
  | some x0 => match idx a0 a1 with
   | none => none
   | some x1 => match with1 ((dget a0 (dnat a3) ([] : List (Int))), (dget a0 (dnat a1) ([] : List (Int))), ()) with
    | none => none
    | some (y2, _) => match (!(ilt y2 0)) with
     | true => some (.inl (a0, a1, a2, (IntKind.wrap .i64 (a3 - 1)), ()))
     | false => some (.inr (.inl (a0, a1, a2, a3, ())))
 | false => some (.inr (.inl (a0, a1, a2, a3, ())))
abbrev partL_i3 : Items := [(.obj 0, .own 28 (.slice (.int .i64))), (.tmp 0, .own' 0), (.tmp 1, .di), (.tmp 4, .clo 84 []), (.tmp 12, .di), (.tmp 13, .di)]
abbrev partL_o3 : Outs := [(.exit 6, [(.obj 0, .own 28 (.slice (.int .i64))), (.tmp 0, .own' 0), (.tmp 1, .di), (.tmp 4, .clo 84 []), (.tmp 12, .di), (.tmp 13, .di)])]
def partL_s3 [Lk] : (List (List Int) × Int × Int × Int × Unit) → Option ((List (List Int) × Int × Int × Int × Unit) ⊕ (List (List Int) × Int × Int × Int × Unit) ⊕ Unit) := fun (a0, a1, a2, a3, _) =>
 match (ile a2 a3) with
 | true => match idx a0 a2 with
  | none => none
  | some x0 => match idx a0 a1 with
   | none => none
   | some x1 => match with1 ((dget a0 (dnat a2) ([] : List (Int))), (dget a0 (dnat a1) ([] : List (Int))), ()) with
    | none => none
    | some (y2, _) => match (ilt y2 0) with
     | true => some (.inl (a0, a1, (IntKind.wrap .i64 (a2 + 1)), a3, ()))
     | false => some (.inr (.inl (a0, a1, a2, a3, ())))
 | false => some (.inr (.inl (a0, a1, a2, a3, ())))
abbrev partL_i2 : Items := [(.obj 0, .own 28 (.slice (.int .i64))), (.tmp 0, .own' 0), (.tmp 1, .di), (.tmp 4, .clo 84 []), (.tmp 12, .di), (.tmp 13, .di)]
abbrev partL_o2 : Outs := [(.exit 4, [(.obj 0, .own 28 (.slice (.int .i64))), (.tmp 0, .own' 0), (.tmp 1, .di), (.tmp 13, .di)])]
def partL_s2 [Lk] : (List (List Int) × Int × Int × Int × Unit) → Option ((List (List Int) × Int × Int × Int × Unit) ⊕ (List (List Int) × Int × Int × Unit) ⊕ Unit) := fun (a0, a1, a2, a3, _) =>
 match iterL partL_s3 many (a0, a1, a2, a3, ()) with
 | none => none
 | some r => match r with
  | .inl (o0, o1, o2, o3, _) => match iterL partL_s4 many (o0, o1, o2, o3, ()) with
   | none => none
   | some r => match r with
    | .inl (o4, o5, o6, o7, _) => match (ilt o7 o6) with
     | true => some (.inr (.inl (o4, o5, o7, ())))
     | false => match idx o4 o7 with
      | none => none
      | some x8 => match idx o4 o6 with
       | none => none
       | some x9 => match idx o4 o6 with
        | none => none
        | some x10 => match idx (dset o4 (dnat o6) (dget o4 (dnat o7) ([] : List (Int)))) o7 with
         | none => none
         | some x11 => some (.inl ((dset (dset o4 (dnat o6) (dget o4 (dnat o7) ([] : List (Int)))) (dnat o7) (dget o4 (dnat o6) ([] : List (Int)))), o5, (IntKind.wrap .i64 (o6 + 1)), (IntKind.wrap .i64 (o7 - 1)), ()))
    | .inr _ => none
  | .inr _ => none
abbrev partL_i1 : Items := [(.obj 0, .own 28 (.slice (.int .i64))), (.tmp 0, .own' 0), (.tmp 1, .di), (.tmp 4, .clo 84 []), (.tmp 12, .di), (.tmp 13, .di)]
abbrev partL_o1 : Outs := [(.exit 2, [(.obj 0, .own 28 (.slice (.int .i64))), (.tmp 0, .own' 0), (.tmp 1, .di), (.tmp 4, .clo 84 []), (.tmp 12, .di), (.tmp 13, .di)])]
def partL_s1 [Lk] : (List (List Int) × Int × Int × Int × Unit) → Option ((List (List Int) × Int × Int × Int × Unit) ⊕ (List (List Int) × Int × Int × Int × Unit) ⊕ Unit) := fun (a0, a1, a2, a3, _) =>
 match (ile a2 a3) with
 | true => match idx a0 a3 with
  | none => none
  | some x0 => match idx a0 a1 with
   | none => none
   | some x1 => match with1 ((dget a0 (dnat a3) ([] : List (Int))), (dget a0 (dnat a1) ([] : List (Int))), ()) with
    | none => none
    | some (y2, _) => match (!(ilt y2 0)) with
     | true => some (.inl (a0, a1, a2, (IntKind.wrap .i64 (a3 - 1)), ()))
     | false => some (.inr (.inl (a0, a1, a2, a3, ())))
 | false => some (.inr (.inl (a0, a1, a2, a3, ())))
abbrev partL_i0 : Items := [(.obj 0, .own 28 (.slice (.int .i64))), (.tmp 0, .own' 0), (.tmp 1, .di), (.tmp 4, .clo 84 []), (.tmp 12, .di), (.tmp 13, .di)]
abbrev partL_o0 : Outs := [(.exit 0, [(.obj 0, .own 28 (.slice (.int .i64))), (.tmp 0, .own' 0), (.tmp 1, .di), (.tmp 4, .clo 84 []), (.tmp 12, .di), (.tmp 13, .di)])]
def partL_s0 [Lk] : (List (List Int) × Int × Int × Int × Unit) → Option ((List (List Int) × Int × Int × Int × Unit) ⊕ (List (List Int) × Int × Int × Int × Unit) ⊕ Unit) := fun (a0, a1, a2, a3, _) =>
 match (ile a2 a3) with
 | true => match idx a0 a2 with
  | none => none
  | some x0 => match idx a0 a1 with
   | none => none
   | some x1 => match with1 ((dget a0 (dnat a2) ([] : List (Int))), (dget a0 (dnat a1) ([] : List (Int))), ()) with
    | none => none
    | some (y2, _) => match (ilt y2 0) with
     | true => some (.inl (a0, a1, (IntKind.wrap .i64 (a2 + 1)), a3, ()))
     | false => some (.inr (.inl (a0, a1, a2, a3, ())))
 | false => some (.inr (.inl (a0, a1, a2, a3, ())))
def partL_d [Lk] : (List (List Int) × Int × Int × Int × Unit) → Option ((List (List Int) × Int × Bool × Unit)) := fun (a0, a1, a2, a3, _) =>
 match idx a0 a3 with
 | none => none
 | some x0 => match idx a0 a1 with
  | none => none
  | some x1 => match idx a0 a1 with
   | none => none
   | some x2 => match idx (dset a0 (dnat a1) (dget a0 (dnat a3) ([] : List (Int)))) a3 with
    | none => none
    | some x3 => match iterL partL_s0 many ((dset (dset a0 (dnat a1) (dget a0 (dnat a3) ([] : List (Int)))) (dnat a3) (dget a0 (dnat a1) ([] : List (Int)))), a1, (IntKind.wrap .i64 (a1 + 1)), (IntKind.wrap .i64 (a2 - 1)), ()) with
     | none => none
     | some r => match r with
      | .inl (o4, o5, o6, o7, _) => match iterL partL_s1 many (o4, o5, o6, o7, ()) with
       | none => none
       | some r => match r with
        | .inl (o8, o9, o10, o11, _) => match (ilt o11 o10) with
         | true => match idx o8 o9 with
          | none => none
          | some x12 => match idx o8 o11 with
           | none => none
           | some x13 => match idx o8 o11 with
            | none => none
            | some x14 => match idx (dset o8 (dnat o11) (dget o8 (dnat o9) ([] : List (Int)))) o9 with
             | none => none
             | some x15 => some ((dset (dset o8 (dnat o11) (dget o8 (dnat o9) ([] : List (Int)))) (dnat o9) (dget o8 (dnat o11) ([] : List (Int)))), o11, true, ())
         | false => match idx o8 o11 with
          | none => none
          | some x16 => match idx o8 o10 with
           | none => none
           | some x17 => match idx o8 o10 with
            | none => none
            | some x18 => match idx (dset o8 (dnat o10) (dget o8 (dnat o11) ([] : List (Int)))) o11 with
             | none => none
             | some x19 => match iterL partL_s2 many ((dset (dset o8 (dnat o10) (dget o8 (dnat o11) ([] : List (Int)))) (dnat o11) (dget o8 (dnat o10) ([] : List (Int)))), o9, (IntKind.wrap .i64 (o10 + 1)), (IntKind.wrap .i64 (o11 - 1)), ()) with
              | none => none
              | some r => match r with
               | .inl (o20, o21, o22, _) => match idx o20 o21 with
                | none => none
                | some x23 => match idx o20 o22 with
                 | none => none
                 | some x24 => match idx o20 o22 with
                  | none => none
                  | some x25 => match idx (dset o20 (dnat o22) (dget o20 (dnat o21) ([] : List (Int)))) o21 with
                   | none => none
                   | some x26 => some ((dset (dset o20 (dnat o22) (dget o20 (dnat o21) ([] : List (Int)))) (dnat o21) (dget o20 (dnat o22) ([] : List (Int)))), o22, false, ())
               | .inr _ => none
        | .inr _ => none
      | .inr _ => none
def partL [Lk] := fun v => Lk.f (partL_d v)
theorem partL_eq v : partL v = partL_d v := lock_eq _
-- slices.pdqsortCmpFunc[[]int]
abbrev pdqL_i : Items := [(.tmp 0, .own 28 (.slice (.int .i64))), (.tmp 1, .di), (.tmp 2, .di), (.tmp 3, .di), (.tmp 4, .clo 84 [])]
abbrev pdqL_o : Items := [(.obj 0, .own 28 (.slice (.int .i64)))]
abbrev pdqL_r : List RS := []
abbrev pdqL_i0 : Items := [(.obj 0, .own 28 (.slice (.int .i64))), (.tmp 0, .own' 0), (.tmp 1, .di), (.tmp 2, .di), (.tmp 3, .di), (.tmp 4, .clo 84 []), (.tmp 10, .dat .bool), (.tmp 11, .dat .bool)]
abbrev pdqL_o0 : Outs := [(.ret, [(.obj 0, .own 28 (.slice (.int .i64)))])]
def pdqL_t [Lk] (self : (List (List Int) × Int × Int × Int × Unit) → Option ((List (List Int) × Unit))) (y7 : List (List Int)) (a1 a2 p l : Int) (a4 a5 : Bool) : Option ((List (List Int) × Int × Int × Int × Bool × Bool × Unit) ⊕ (List (List Int) × Unit) ⊕ Unit) :=
 match (ilt 0 a1) with
 | true => match idx y7 (IntKind.wrap .i64 (a1 - 1)) with
  | none => none
  | some x9 => match idx y7 p with
   | none => none
   | some x10 => match with1 ((dget y7 (dnat (IntKind.wrap .i64 (a1 - 1))) ([] : List (Int))), (dget y7 (dnat p) ([] : List (Int))), ()) with
    | none => none
    | some (y11, _) => match (!(ilt y11 0)) with
     | true => match partEqL (y7, a1, a2, p, ()) with
      | none => none
      | some (y12, y13, _) => some (.inl (y12, y13, a2, l, a4, a5, ()))
     | false => match partL (y7, a1, a2, p, ()) with
      | none => none
      | some (y14, y15, y16, _) => match quo? .i64 (IntKind.wrap .i64 (a2 - a1)) 8 with
       | none => none
       | some x17 => match (ilt (IntKind.wrap .i64 (y15 - a1)) (IntKind.wrap .i64 (a2 - y15))) with
        | true => match self (y14, a1, y15, l, ()) with
         | none => none
         | some (y18, _) => some (.inl (y18, (IntKind.wrap .i64 (y15 + 1)), a2, l, (ile x17 (IntKind.wrap .i64 (y15 - a1))), y16, ()))
        | false => match self (y14, (IntKind.wrap .i64 (y15 + 1)), a2, l, ()) with
         | none => none
         | some (y19, _) => some (.inl (y19, a1, y15, l, (ile x17 (IntKind.wrap .i64 (a2 - y15))), y16, ()))
 | false => match partL (y7, a1, a2, p, ()) with
  | none => none
  | some (y20, y21, y22, _) => match quo? .i64 (IntKind.wrap .i64 (a2 - a1)) 8 with
   | none => none
   | some x23 => match (ilt (IntKind.wrap .i64 (y21 - a1)) (IntKind.wrap .i64 (a2 - y21))) with
    | true => match self (y20, a1, y21, l, ()) with
     | none => none
     | some (y24, _) => some (.inl (y24, (IntKind.wrap .i64 (y21 + 1)), a2, l, (ile x23 (IntKind.wrap .i64 (y21 - a1))), y22, ()))
    | false => match self (y20, (IntKind.wrap .i64 (y21 + 1)), a2, l, ()) with
     | none => none
     | some (y25, _) => some (.inl (y25, a1, y21, l, (ile x23 (IntKind.wrap .i64 (a2 - y21))), y22, ()))
def pdqL_e [Lk] (self : (List (List Int) × Int × Int × Int × Unit) → Option ((List (List Int) × Unit))) (y6 : List (List Int)) (a1 a2 p h l : Int) (a4 a5 : Bool) : Option ((List (List Int) × Int × Int × Int × Bool × Bool × Unit) ⊕ (List (List Int) × Unit) ⊕ Unit) :=
 match a4 with
 | true => match a5 with
  | true => match (ieq h 1) with
   | true => match partInsL (y6, a1, a2, ()) with
    | none => none
    | some (y7, y8, _) => match y8 with
     | true => some (.inr (.inl (y7, ())))
     | false => pdqL_t self y7 a1 a2 p l a4 a5
   | false => pdqL_t self y6 a1 a2 p l a4 a5
  | false => pdqL_t self y6 a1 a2 p l a4 a5
 | false => pdqL_t self y6 a1 a2 p l a4 a5
def pdqL_m [Lk] (self : (List (List Int) × Int × Int × Int × Unit) → Option ((List (List Int) × Unit))) (y2 : List (List Int)) (a1 a2 l : Int) (a4 a5 : Bool) : Option ((List (List Int) × Int × Int × Int × Bool × Bool × Unit) ⊕ (List (List Int) × Unit) ⊕ Unit) :=
 match pivotL (y2, a1, a2, ()) with
 | none => none
 | some (y3, y4, y5, _) => match (ieq y5 2) with
  | true => match revL (y3, a1, a2, ()) with
   | none => none
   | some (y6, _) => pdqL_e self y6 a1 a2 (IntKind.wrap .i64 ((IntKind.wrap .i64 (a2 - 1)) - (IntKind.wrap .i64 (y4 - a1)))) 1 l a4 a5
  | false => pdqL_e self y3 a1 a2 y4 y5 l a4 a5
def pdqL_s0 [Lk] (self : (List (List Int) × Int × Int × Int × Unit) → Option ((List (List Int) × Unit))) : (List (List Int) × Int × Int × Int × Bool × Bool × Unit) → Option ((List (List Int) × Int × Int × Int × Bool × Bool × Unit) ⊕ (List (List Int) × Unit) ⊕ Unit) := fun (a0, a1, a2, a3, a4, a5, _) =>
 match (ile (IntKind.wrap .i64 (a2 - a1)) 12) with
 | true => match insL (a0, a1, a2, ()) with
  | none => none
  | some (y0, _) => some (.inr (.inl (y0, ())))
 | false => match (ieq a3 0) with
  | true => match heapL (a0, a1, a2, ()) with
   | none => none
   | some (y1, _) => some (.inr (.inl (y1, ())))
  | false => match (!a4) with
   | true => match breakL (a0, a1, a2, ()) with
    | none => none
    | some (y2, _) => pdqL_m self y2 a1 a2 (IntKind.wrap .i64 (a3 - 1)) a4 a5
   | false => pdqL_m self a0 a1 a2 a3 a4 a5
def pdqL_d [Lk] (self : (List (List Int) × Int × Int × Int × Unit) → Option ((List (List Int) × Unit))) : (List (List Int) × Int × Int × Int × Unit) → Option ((List (List Int) × Unit)) := fun (a0, a1, a2, a3, _) =>
 match iterL (pdqL_s0 self) many (a0, a1, a2, a3, true, true, ()) with
 | none => none
 | some r => match r with
  | .inl (o0, _) => some (o0, ())
  | .inr _ => none
def pdqL_f [Lk] : Nat → (List (List Int) × Int × Int × Int × Unit) → Option ((List (List Int) × Unit))
 | 0, _ => none
 | n + 1, v => pdqL_d (pdqL_f n) v
def pdqL [Lk] := fun v => Lk.f (pdqL_f 100 v)
theorem pdqL_eq v : pdqL v = pdqL_f 100 v := lock_eq _
-- slices.SortFunc[[][]int,[]int]
abbrev sortL_i : Items := [(.tmp 0, .own 28 (.slice (.int .i64))), (.tmp 1, .clo 84 [])]
abbrev sortL_o : Items := [(.obj 0, .own 28 (.slice (.int .i64)))]
abbrev sortL_r : List RS := []
def sortL_d [Lk] : (List (List Int) × Unit) → Option ((List (List Int) × Unit)) := fun (a0, _) =>
 match bitsLen ((IntKind.wrap .u64 (dlen a0)), ()) with
 | none => none
 | some (y0, _) => match pdqL (a0, 0, (dlen a0), y0, ()) with
  | none => none
  | some (y1, _) => some (y1, ())
def sortL [Lk] := fun v => Lk.f (sortL_d v)
theorem sortL_eq v : sortL v = sortL_d v := lock_eq _
-- archipelago/tour.with
abbrev twith_i : Items := [(.tmp 0, .dat (.prod (.int .i64) (.prod (.slice (.slice (.int .i64))) .unit))), (.tmp 1, .dat (.slice (.int .i64))), (.tmp 2, .dat (.slice (.slice (.int .i64))))]
abbrev twith_o : Items := [(.tmp 0, .di), (.tmp 1, .own 28 (.slice (.int .i64)))]
abbrev twith_r : List RS := [.agg 2]
abbrev twith_i1 : Items := [(.tmp 3, .box 2), (.cell 0 0, .di), (.cell 0 1, .dat (.slice (.slice (.int .i64)))), (.tmp 6, .box 2), (.cell 1 0, .di), (.cell 1 1, .nil (.slice (.int .i64))), (.tmp 7, .own 28 (.slice (.int .i64))), (.tmp 29, .dat (.slice (.slice (.int .i64)))), (.tmp 30, .di), (.tmp 31, .di)]
abbrev twith_o1 : Outs := [(.exit 2, [(.tmp 3, .box 2), (.cell 0 0, .di), (.cell 0 1, .dat (.slice (.slice (.int .i64)))), (.tmp 6, .box 2), (.cell 1 0, .di), (.cell 1 1, .nil (.slice (.int .i64))), (.tmp 7, .own 28 (.slice (.int .i64)))])]
def twith_s1 [Lk] : (Int × List (List Int) × Int × List (List Int) × List (List Int) × Int × Int × Unit) → Option ((Int × List (List Int) × Int × List (List Int) × List (List Int) × Int × Int × Unit) ⊕ (Int × List (List Int) × Int × List (List Int) × Unit) ⊕ Unit) := fun (a0, a1, a2, a3, a4, a5, a6, _) =>
 match (ilt a6 a5) with
 | true => match idx a4 a6 with
  | none => none
  | some x0 => match rplain (x0, ()) with
   | none => none
   | some (y1, _) => match (fits ((dlen a3) + (dlen ([y1] : List (List Int))))) with
    | true => some (.inl (a0, a1, a2, (dapp a3 ([y1] : List (List Int))), a4, a5, (IntKind.wrap .i64 (a6 + 1)), ()))
    | false => none
 | false => some (.inr (.inl (a0, a1, a2, a3, ())))
abbrev twith_i0 : Items := [(.tmp 1, .dat (.slice (.int .i64))), (.tmp 2, .dat (.slice (.slice (.int .i64)))), (.tmp 3, .box 2), (.cell 0 0, .di), (.cell 0 1, .dat (.slice (.slice (.int .i64)))), (.tmp 6, .box 2), (.cell 1 0, .di), (.cell 1 1, .nil (.slice (.int .i64))), (.tmp 7, .own 28 (.slice (.int .i64))), (.tmp 13, .dat (.slice (.slice (.int .i64)))), (.tmp 14, .di), (.tmp 15, .di)]
abbrev twith_o0 : Outs := [(.exit 0, [(.tmp 2, .dat (.slice (.slice (.int .i64)))), (.tmp 3, .box 2), (.cell 0 0, .di), (.cell 0 1, .dat (.slice (.slice (.int .i64)))), (.tmp 6, .box 2), (.cell 1 0, .di), (.cell 1 1, .nil (.slice (.int .i64))), (.tmp 7, .own 28 (.slice (.int .i64)))])]
def twith_s0 [Lk] : (List Int × List (List Int) × Int × List (List Int) × Int × List (List Int) × List (List Int) × Int × Int × Unit) → Option ((List Int × List (List Int) × Int × List (List Int) × Int × List (List Int) × List (List Int) × Int × Int × Unit) ⊕ (List (List Int) × Int × List (List Int) × Int × List (List Int) × Unit) ⊕ Unit) := fun (a0, a1, a2, a3, a4, a5, a6, a7, a8, _) =>
 match (ilt a8 a7) with
 | true => match idx a6 a8 with
  | none => none
  | some x0 => match containsI (a0, a8, ()) with
   | none => none
   | some (y1, _) => match (!y1) with
    | true => match (fits ((dlen a5) + (dlen ([x0] : List (List Int))))) with
     | true => some (.inl (a0, a1, a2, a3, a4, (dapp a5 ([x0] : List (List Int))), a6, a7, (IntKind.wrap .i64 (a8 + 1)), ()))
     | false => none
    | false => some (.inl (a0, a1, a2, a3, a4, a5, a6, a7, (IntKind.wrap .i64 (a8 + 1)), ()))
 | false => some (.inr (.inl (a1, a2, a3, a4, a5, ())))
def twith_d [Lk] : ((Int × (List (List Int)) × Unit) × List Int × List (List Int) × Unit) → Option ((Int × List (List Int) × Unit)) := fun (a0, a1, a2, _) =>
 match iterL twith_s0 many (a1, a2, a0.1, a0.2.1, 0, ([] : List (List Int)), a0.2.1, (dlen a0.2.1), 0, ()) with
 | none => none
 | some r => match r with
  | .inl (o0, o1, o2, o3, o4, _) => match iterL twith_s1 many (o1, o2, o3, o4, o0, (dlen o0), 0, ()) with
   | none => none
   | some r => match r with
    | .inl (o5, o6, o7, o8, _) => match sortL (o8, ()) with
     | none => none
     | some (y9, _) => some (o5, y9, ())
    | .inr _ => none
  | .inr _ => none
def twith [Lk] := fun v => Lk.f (twith_d v)
theorem twith_eq v : twith v = twith_d v := lock_eq _
-- archipelago/tour.Link
abbrev tlink_i : Items := [(.tmp 0, .dat (.prod (.int .i64) (.prod (.slice (.slice (.int .i64))) .unit))), (.tmp 1, .di), (.tmp 2, .di)]
abbrev tlink_o : Items := [(.tmp 0, .di), (.tmp 1, .dat (.slice (.slice (.int .i64)))), (.tmp 2, .di)]
abbrev tlink_r : List RS := [.agg 2, .one]
def tlink_d [Lk] : ((Int × (List (List Int)) × Unit) × Int × Int × Unit) → Option ((Int × List (List Int) × Int × Unit)) := fun (a0, a1, a2, _) =>
 match asked ((a0.1, (a0.2.1, ())), a1, a2, ()) with
 | none => none
 | some (y0, _) => match (!(ieq y0 0)) with
  | true => some (a0.1, a0.2.1, y0, ())
  | false => match tplace ((a0.1, (a0.2.1, ())), a1, ()) with
   | none => none
   | some (y1, _) => match tplace ((a0.1, (a0.2.1, ())), a2, ()) with
    | none => none
    | some (y2, _) => match (ieq y1 y2) with
     | true => some (a0.1, a0.2.1, 5, ())
     | false => match idx a0.2.1 y1 with
      | none => none
      | some x3 => match rfrom (x3, a1, ()) with
       | none => none
       | some (y4, y5, _) => match idx a0.2.1 y2 with
        | none => none
        | some x6 => match rfrom (x6, a2, ()) with
         | none => none
         | some (y7, y8, _) => match subl y4 0 1 with
          | none => none
          | some x9 => match tarc (a0.1, a1, a2, ()) with
           | none => none
           | some (y10, _) => match tarc (a0.1, a2, a1, ()) with
            | none => none
            | some (y11, _) => match subl y4 1 (dlen y4) with
             | none => none
             | some x12 => match concatI (([(dcut 0 (dnat (dlen x9)) y4), ([y10] : List (Int)), y7, ([y11] : List (Int)), (dcut 1 (dnat (dlen x12)) y4)] : List (List Int)), ()) with
              | none => none
              | some (y13, _) => match twith ((a0.1, (a0.2.1, ())), ([y1, y2] : List (Int)), ([y13] : List (List Int)), ()) with
               | none => none
               | some (y14, y15, _) => some (y14, y15, 0, ())
def tlink [Lk] := fun v => Lk.f (tlink_d v)
theorem tlink_eq v : tlink v = tlink_d v := lock_eq _
end
end Go.Pev
end
section
namespace Go.Pev
set_option maxRecDepth 100000
noncomputable section
attribute [local irreducible] fitsR fitsIR idxR sublR iltR ileR ieqR quoR remR shlR shrR cloneR iterO many IntKind.wrap dlen dset dget dapp dtake dcut drep dnat dclear imin imax lookupM storeM
-- slices.IndexFunc[[]int,int]
abbrev idxFuncI_there_i : Items := [(.tmp 0, .dat (.slice (.int .i64))), (.cap 1 0, .box 2), (.cell 0 0, .di), (.cell 0 1, .dat (.slice (.slice (.int .i64)))), (.tmp 1, .clo 75 [(0, 0)])]
abbrev idxFuncI_there_o : Items := [(.obj 0, .box 2), (.cell 0 0, .di), (.cell 0 1, .dat (.slice (.slice (.int .i64)))), (.tmp 0, .di)]
abbrev idxFuncI_there_r : List RS := [.one]
abbrev idxFuncI_there_i0 : Items := [(.obj 0, .box 2), (.cell 0 0, .di), (.cell 0 1, .dat (.slice (.slice (.int .i64)))), (.tmp 0, .dat (.slice (.int .i64))), (.tmp 1, .clo 75 [(0, 0)]), (.tmp 7, .di), (.tmp 8, .di)]
abbrev idxFuncI_there_o0 : Outs := [(.ret, [(.obj 0, .box 2), (.cell 0 0, .di), (.cell 0 1, .dat (.slice (.slice (.int .i64)))), (.tmp 4, .di)]), (.exit 0, [(.obj 0, .box 2), (.cell 0 0, .di), (.cell 0 1, .dat (.slice (.slice (.int .i64))))])]
def idxFuncI_there_s0 [Lk] : (Int × List (List Int) × List Int × Int × Int × Unit) → Option ((Int × List (List Int) × List Int × Int × Int × Unit) ⊕ (Int × List (List Int) × Int × Unit) ⊕ (Int × List (List Int) × Unit) ⊕ Unit) := fun (a0, a1, a2, a3, a4, _) =>
 match (ilt a4 a3) with
 | true => match idx a2 a4 with
  | none => none
  | some x0 => match (ilt x0 0) with
   | true => some (.inr (.inl (a0, a1, a4, ())))
   | false => match (ile a0 x0) with
    | true => some (.inr (.inl (a0, a1, a4, ())))
    | false => some (.inl (a0, a1, a2, a3, (IntKind.wrap .i64 (a4 + 1)), ()))
 | false => some (.inr (.inr (.inl (a0, a1, ()))))
def idxFuncI_there_d [Lk] : (List Int × Int × List (List Int) × Unit) → Option ((Int × List (List Int) × Int × Unit)) := fun (a0, a1, a2, _) =>
 match iterL idxFuncI_there_s0 many (a1, a2, a0, (dlen a0), 0, ()) with
 | none => none
 | some r => match r with
  | .inl (o0, o1, o2, _) => some (o0, o1, o2, ())
  | .inr r => match r with
   | .inl (o3, o4, _) => some (o3, o4, (-1 : Int), ())
   | .inr _ => none
def idxFuncI_there [Lk] := fun v => Lk.f (idxFuncI_there_d v)
theorem idxFuncI_there_eq v : idxFuncI_there v = idxFuncI_there_d v := lock_eq _
-- slices.ContainsFunc[[]int,int]
abbrev contFuncI_there_i : Items := [(.tmp 0, .dat (.slice (.int .i64))), (.cap 1 0, .box 2), (.cell 0 0, .di), (.cell 0 1, .dat (.slice (.slice (.int .i64)))), (.tmp 1, .clo 75 [(0, 0)])]
abbrev contFuncI_there_o : Items := [(.obj 0, .box 2), (.cell 0 0, .di), (.cell 0 1, .dat (.slice (.slice (.int .i64)))), (.tmp 0, .dat .bool)]
abbrev contFuncI_there_r : List RS := [.one]
def contFuncI_there_d [Lk] : (List Int × Int × List (List Int) × Unit) → Option ((Int × List (List Int) × Bool × Unit)) := fun (a0, a1, a2, _) =>
 match idxFuncI_there (a0, a1, a2, ()) with
 | none => none
 | some (y0, y1, y2, _) => some (y0, y1, (ile 0 y2), ())
def contFuncI_there [Lk] := fun v => Lk.f (contFuncI_there_d v)
theorem contFuncI_there_eq v : contFuncI_there v = contFuncI_there_d v := lock_eq _
-- archipelago/forest.there
abbrev fthere_i : Items := [(.tmp 0, .dat (.prod (.int .i64) (.prod (.slice (.slice (.int .i64))) .unit))), (.tmp 1, .dat (.slice (.int .i64)))]
abbrev fthere_o : Items := [(.tmp 0, .di)]
abbrev fthere_r : List RS := [.one]
def fthere_d [Lk] : ((Int × (List (List Int)) × Unit) × List Int × Unit) → Option ((Int × Unit)) := fun (a0, a1, _) =>
 match tright ((a0.1, (a0.2.1, ())), ()) with
 | none => none
 | some (y0, _) => match (!y0) with
  | true => some (1, ())
  | false => match contFuncI_there (a1, a0.1, a0.2.1, ()) with
   | none => none
   | some (y1, y2, y3, _) => match y3 with
    | true => some (10, ())
    | false => some (0, ())
def fthere [Lk] := fun v => Lk.f (fthere_d v)
theorem fthere_eq v : fthere v = fthere_d v := lock_eq _
-- archipelago/forest.ends
abbrev ends_i : Items := [(.tmp 0, .dat (.slice (.prod (.int .i64) (.prod (.int .i64) .unit))))]
abbrev ends_o : Items := [(.tmp 0, .own 3 (.int .i64))]
abbrev ends_r : List RS := [.one]
abbrev ends_i0 : Items := [(.tmp 3, .own 3 (.int .i64)), (.tmp 6, .dat (.slice (.prod (.int .i64) (.prod (.int .i64) .unit)))), (.tmp 7, .di), (.tmp 8, .di)]
abbrev ends_o0 : Outs := [(.exit 0, [(.tmp 3, .own 3 (.int .i64))])]
def ends_s0 [Lk] : (List Int × List (Int × Int × Unit) × Int × Int × Unit) → Option ((List Int × List (Int × Int × Unit) × Int × Int × Unit) ⊕ (List Int × Unit) ⊕ Unit) := fun (a0, a1, a2, a3, _) =>
 match (ilt a3 a2) with
 | true => match idx a1 a3 with
  | none => none
  | some x0 => match (fits ((dlen a0) + (dlen ([x0.1, x0.2.1] : List (Int))))) with
   | true => some (.inl ((dapp a0 ([x0.1, x0.2.1] : List (Int))), a1, a2, (IntKind.wrap .i64 (a3 + 1)), ()))
   | false => none
 | false => some (.inr (.inl (a0, ())))
def ends_d [Lk] : (List (Int × Int × Unit) × Unit) → Option ((List Int × Unit)) := fun (a0, _) =>
 match iterL ends_s0 many (([] : List (Int)), a0, (dlen a0), 0, ()) with
 | none => none
 | some r => match r with
  | .inl (o0, _) => some (o0, ())
  | .inr _ => none
def ends [Lk] := fun v => Lk.f (ends_d v)
theorem ends_eq v : ends v = ends_d v := lock_eq _
-- archipelago/forest.each
abbrev eachLink_i : Items := [(.tmp 0, .dat (.prod (.int .i64) (.prod (.slice (.slice (.int .i64))) .unit))), (.tmp 1, .dat (.slice (.prod (.int .i64) (.prod (.int .i64) .unit)))), (.tmp 2, .clo 66 [])]
abbrev eachLink_o : Items := [(.tmp 0, .dat (.prod (.int .i64) (.prod (.slice (.slice (.int .i64))) .unit))), (.tmp 1, .own 4 .bool), (.tmp 2, .di)]
abbrev eachLink_r : List RS := [.one, .one, .one]
abbrev eachLink_i0 : Items := [(.tmp 2, .clo 66 []), (.tmp 3, .box 2), (.cell 0 0, .di), (.cell 0 1, .dat (.slice (.slice (.int .i64)))), (.tmp 6, .box 2), (.cell 1 0, .di), (.cell 1 1, .nil (.slice (.int .i64))), (.tmp 10, .own 4 .bool), (.tmp 23, .dat (.slice (.prod (.int .i64) (.prod (.int .i64) .unit)))), (.tmp 24, .di), (.tmp 25, .di)]
abbrev eachLink_o0 : Outs := [(.exit 0, [(.tmp 3, .box 2), (.cell 0 0, .di), (.cell 0 1, .dat (.slice (.slice (.int .i64)))), (.tmp 6, .box 2), (.cell 1 0, .di), (.cell 1 1, .nil (.slice (.int .i64))), (.tmp 10, .own 4 .bool)])]
def eachLink_s0 [Lk] : (Int × List (List Int) × Int × List Bool × List (Int × Int × Unit) × Int × Int × Unit) → Option ((Int × List (List Int) × Int × List Bool × List (Int × Int × Unit) × Int × Int × Unit) ⊕ (Int × List (List Int) × Int × List Bool × Unit) ⊕ Unit) := fun (a0, a1, a2, a3, a4, a5, a6, _) =>
 match (ilt a6 a5) with
 | true => match idx a4 a6 with
  | none => none
  | some x0 => match tlink ((a0, (a1, ())), x0.1, x0.2.1, ()) with
   | none => none
   | some (y1, y2, y3, _) => match (fits ((dlen a3) + (dlen ([(ieq y3 0)] : List (Bool))))) with
    | true => some (.inl (y1, y2, a2, (dapp a3 ([(ieq y3 0)] : List (Bool))), a4, a5, (IntKind.wrap .i64 (a6 + 1)), ()))
    | false => none
 | false => some (.inr (.inl (a0, a1, a2, a3, ())))
def eachLink_d [Lk] : ((Int × (List (List Int)) × Unit) × List (Int × Int × Unit) × Unit) → Option (((Int × (List (List Int)) × Unit) × List Bool × Int × Unit)) := fun (a0, a1, _) =>
 match ends (a1, ()) with
 | none => none
 | some (y0, _) => match fthere ((a0.1, (a0.2.1, ())), y0, ()) with
  | none => none
  | some (y1, _) => match (!(ieq y1 0)) with
   | true => some ((a0.1, (a0.2.1, ())), ([] : List (Bool)), y1, ())
   | false => match iterL eachLink_s0 many (a0.1, a0.2.1, 0, ([] : List (Bool)), a1, (dlen a1), 0, ()) with
    | none => none
    | some r => match r with
     | .inl (o2, o3, o4, o5, _) => some ((o2, (o3, ())), o5, 0, ())
     | .inr _ => none
def eachLink [Lk] := fun v => Lk.f (eachLink_d v)
theorem eachLink_eq v : eachLink v = eachLink_d v := lock_eq _
-- archipelago/forest.Links
abbrev flinks_i : Items := [(.tmp 0, .dat (.prod (.int .i64) (.prod (.slice (.slice (.int .i64))) .unit))), (.tmp 1, .dat (.slice (.prod (.int .i64) (.prod (.int .i64) .unit))))]
abbrev flinks_o : Items := [(.tmp 0, .dat (.prod (.int .i64) (.prod (.slice (.slice (.int .i64))) .unit))), (.tmp 1, .own 4 .bool), (.tmp 2, .di)]
abbrev flinks_r : List RS := [.one, .one, .one]
def flinks_d [Lk] : ((Int × (List (List Int)) × Unit) × List (Int × Int × Unit) × Unit) → Option (((Int × (List (List Int)) × Unit) × List Bool × Int × Unit)) := fun (a0, a1, _) =>
 match eachLink ((a0.1, (a0.2.1, ())), a1, ()) with
 | none => none
 | some (y0, y1, y2, _) => some ((y0.1, (y0.2.1, ())), y1, y2, ())
def flinks [Lk] := fun v => Lk.f (flinks_d v)
theorem flinks_eq v : flinks v = flinks_d v := lock_eq _
-- archipelago/forest.Of
abbrev fof_i : Items := [(.tmp 0, .di), (.tmp 1, .dat (.slice (.prod (.int .i64) (.prod (.int .i64) .unit))))]
abbrev fof_o : Items := [(.tmp 0, .dat (.prod (.int .i64) (.prod (.slice (.slice (.int .i64))) .unit))), (.tmp 1, .di)]
abbrev fof_r : List RS := [.one, .one]
def fof_d [Lk] : (Int × List (Int × Int × Unit) × Unit) → Option (((Int × (List (List Int)) × Unit) × Int × Unit)) := fun (a0, a1, _) =>
 match tmake (a0, ()) with
 | none => none
 | some (y0, y1, y2, _) => match (!(ieq y2 0)) with
  | true => some ((0, (([] : List (List Int)), ())), y2, ())
  | false => match flinks ((y0, (y1, ())), a1, ()) with
   | none => none
   | some (y3, y4, y5, _) => match (!(ieq y5 0)) with
    | true => some ((0, (([] : List (List Int)), ())), y5, ())
    | false => some ((y3.1, (y3.2.1, ())), 0, ())
def fof [Lk] := fun v => Lk.f (fof_d v)
theorem fof_eq v : fof v = fof_d v := lock_eq _
-- cmp.Or[int]
abbrev orI_i : Items := [(.tmp 0, .dat (.slice (.int .i64)))]
abbrev orI_o : Items := [(.tmp 0, .di)]
abbrev orI_r : List RS := [.one]
abbrev orI_i0 : Items := [(.tmp 3, .di), (.tmp 6, .dat (.slice (.int .i64))), (.tmp 7, .di), (.tmp 8, .di)]
abbrev orI_o0 : Outs := [(.ret, [(.tmp 2, .di)]), (.exit 0, [(.tmp 3, .di)])]
def orI_s0 [Lk] : (Int × List Int × Int × Int × Unit) → Option ((Int × List Int × Int × Int × Unit) ⊕ (Int × Unit) ⊕ (Int × Unit) ⊕ Unit) := fun (a0, a1, a2, a3, _) =>
 match (ilt a3 a2) with
 | true => match idx a1 a3 with
  | none => none
  | some x0 => match (!(ieq x0 a0)) with
   | true => some (.inr (.inl (x0, ())))
   | false => some (.inl (a0, a1, a2, (IntKind.wrap .i64 (a3 + 1)), ()))
 | false => some (.inr (.inr (.inl (a0, ()))))
def orI_d [Lk] : (List Int × Unit) → Option ((Int × Unit)) := fun (a0, _) =>
 match iterL orI_s0 many (0, a0, (dlen a0), 0, ()) with
 | none => none
 | some r => match r with
  | .inl (o0, _) => some (o0, ())
  | .inr r => match r with
   | .inl (o1, _) => some (o1, ())
   | .inr _ => none
def orI [Lk] := fun v => Lk.f (orI_d v)
theorem orI_eq v : orI v = orI_d v := lock_eq _
-- archipelago/level.sized
abbrev lsized_i : Items := [(.tmp 0, .di)]
abbrev lsized_o : Items := [(.tmp 0, .dat .bool)]
abbrev lsized_r : List RS := [.one]
def lsized_d [Lk] : (Int × Unit) → Option ((Bool × Unit)) := fun (a0, _) =>
 match (ile 1 a0) with
 | true => some ((ile a0 64), ())
 | false => some (false, ())
def lsized [Lk] := fun v => Lk.f (lsized_d v)
theorem lsized_eq v : lsized v = lsized_d v := lock_eq _
-- archipelago/level.Top
abbrev ltop_i : Items := [(.tmp 0, .di)]
abbrev ltop_o : Items := [(.tmp 0, .di)]
abbrev ltop_r : List RS := [.one]
def ltop_d [Lk] : (Int × Unit) → Option ((Int × Unit)) := fun (a0, _) =>
 match lsized (a0, ()) with
 | none => none
 | some (y0, _) => match (!y0) with
  | true => some (0, ())
  | false => match bitsLen ((IntKind.wrap .u64 (IntKind.wrap .i64 (a0 - 1))), ()) with
   | none => none
   | some (y1, _) => some (y1, ())
def ltop [Lk] := fun v => Lk.f (ltop_d v)
theorem ltop_eq v : ltop v = ltop_d v := lock_eq _
-- archipelago/level.compare
abbrev lcompare_i : Items := [(.tmp 0, .dat (.prod (.int .i64) (.prod (.int .i64) (.prod (.int .i64) (.prod .bool .unit))))), (.tmp 1, .dat (.prod (.int .i64) (.prod (.int .i64) (.prod (.int .i64) (.prod .bool .unit)))))]
abbrev lcompare_o : Items := [(.tmp 0, .di)]
abbrev lcompare_r : List RS := [.one]
def lcompare_d [Lk] : ((Int × Int × Int × Bool × Unit) × (Int × Int × Int × Bool × Unit) × Unit) → Option ((Int × Unit)) := fun (a0, a1, _) =>
 match compareI (a0.1, a1.1, ()) with
 | none => none
 | some (y0, _) => match compareI (a0.2.1, a1.2.1, ()) with
  | none => none
  | some (y1, _) => match orI (([y0, y1] : List (Int)), ()) with
   | none => none
   | some (y2, _) => some (y2, ())
def lcompare [Lk] := fun v => Lk.f (lcompare_d v)
theorem lcompare_eq v : lcompare v = lcompare_d v := lock_eq _
-- archipelago/level.trees
abbrev ltrees_i : Items := [(.tmp 0, .dat (.prod (.int .i64) (.prod (.slice (.prod (.int .i64) (.prod (.int .i64) (.prod (.int .i64) (.prod .bool .unit))))) .unit))), (.tmp 1, .di)]
abbrev ltrees_o : Items := [(.tmp 0, .own 70 (.prod (.int .i64) (.prod (.int .i64) .unit)))]
abbrev ltrees_r : List RS := [.one]
abbrev ltrees_i0 : Items := [(.tmp 1, .di), (.tmp 5, .own 70 (.prod (.int .i64) (.prod (.int .i64) .unit))), (.tmp 9, .dat (.slice (.prod (.int .i64) (.prod (.int .i64) (.prod (.int .i64) (.prod .bool .unit)))))), (.tmp 10, .di), (.tmp 11, .di)]
abbrev ltrees_o0 : Outs := [(.exit 0, [(.tmp 5, .own 70 (.prod (.int .i64) (.prod (.int .i64) .unit)))])]
def ltrees_s0 [Lk] : (Int × List (Int × Int × Unit) × List (Int × Int × Int × Bool × Unit) × Int × Int × Unit) → Option ((Int × List (Int × Int × Unit) × List (Int × Int × Int × Bool × Unit) × Int × Int × Unit) ⊕ (List (Int × Int × Unit) × Unit) ⊕ Unit) := fun (a0, a1, a2, a3, a4, _) =>
 match (ilt a4 a3) with
 | true => match idx a2 a4 with
  | none => none
  | some x0 => match x0.2.2.2.1 with
   | true => match (ile a0 x0.2.2.1) with
    | true => match (fits ((dlen a1) + (dlen ([(x0.1, (x0.2.1, ()))] : List (Int × Int × Unit))))) with
     | true => some (.inl (a0, (dapp a1 ([(x0.1, (x0.2.1, ()))] : List (Int × Int × Unit))), a2, a3, (IntKind.wrap .i64 (a4 + 1)), ()))
     | false => none
    | false => some (.inl (a0, a1, a2, a3, (IntKind.wrap .i64 (a4 + 1)), ()))
   | false => some (.inl (a0, a1, a2, a3, (IntKind.wrap .i64 (a4 + 1)), ()))
 | false => some (.inr (.inl (a1, ())))
def ltrees_d [Lk] : ((Int × (List (Int × Int × Int × Bool × Unit)) × Unit) × Int × Unit) → Option ((List (Int × Int × Unit) × Unit)) := fun (a0, a1, _) =>
 match iterL ltrees_s0 many (a1, ([] : List (Int × Int × Unit)), a0.2.1, (dlen a0.2.1), 0, ()) with
 | none => none
 | some r => match r with
  | .inl (o0, _) => some (o0, ())
  | .inr _ => none
def ltrees [Lk] := fun v => Lk.f (ltrees_d v)
theorem ltrees_eq v : ltrees v = ltrees_d v := lock_eq _
-- archipelago/level.Right
abbrev lright_i : Items := [(.tmp 0, .dat (.prod (.int .i64) (.prod (.slice (.prod (.int .i64) (.prod (.int .i64) (.prod (.int .i64) (.prod .bool .unit))))) .unit)))]
abbrev lright_o : Items := [(.tmp 0, .dat .bool)]
abbrev lright_r : List RS := [.one]
abbrev lright_i0 : Items := [(.tmp 1, .box 2), (.cell 0 0, .di), (.cell 0 1, .dat (.slice (.prod (.int .i64) (.prod (.int .i64) (.prod (.int .i64) (.prod .bool .unit)))))), (.tmp 3, .di), (.tmp 23, .dat (.slice (.prod (.int .i64) (.prod (.int .i64) (.prod (.int .i64) (.prod .bool .unit)))))), (.tmp 24, .di), (.tmp 25, .di)]
abbrev lright_o0 : Outs := [(.ret, [(.tmp 2, .dat .bool)]), (.exit 0, [(.tmp 1, .box 2), (.cell 0 0, .di), (.cell 0 1, .dat (.slice (.prod (.int .i64) (.prod (.int .i64) (.prod (.int .i64) (.prod .bool .unit))))))])]
def lright_s0 [Lk] : (Int × List (Int × Int × Int × Bool × Unit) × Int × List (Int × Int × Int × Bool × Unit) × Int × Int × Unit) → Option ((Int × List (Int × Int × Int × Bool × Unit) × Int × List (Int × Int × Int × Bool × Unit) × Int × Int × Unit) ⊕ (Bool × Unit) ⊕ (Int × List (Int × Int × Int × Bool × Unit) × Unit) ⊕ Unit) := fun (a0, a1, a2, a3, a4, a5, _) =>
 match (ilt a5 a4) with
 | true => match idx a3 a5 with
  | none => none
  | some x0 => match (ilt x0.1 0) with
   | true => some (.inr (.inl (false, ())))
   | false => match (ile x0.2.1 x0.1) with
    | true => some (.inr (.inl (false, ())))
    | false => match (ile a0 x0.2.1) with
     | true => some (.inr (.inl (false, ())))
     | false => match (ilt x0.2.2.1 0) with
      | true => some (.inr (.inl (false, ())))
      | false => match (ilt a2 x0.2.2.1) with
       | true => some (.inr (.inl (false, ())))
       | false => match (ilt 0 a5) with
        | true => match idx a1 (IntKind.wrap .i64 (a5 - 1)) with
         | none => none
         | some x1 => match lcompare ((x1.1, (x1.2.1, (x1.2.2.1, (x1.2.2.2.1, ())))), (x0.1, (x0.2.1, (x0.2.2.1, (x0.2.2.2.1, ())))), ()) with
          | none => none
          | some (y2, _) => match (ile 0 y2) with
           | true => some (.inr (.inl (false, ())))
           | false => some (.inl (a0, a1, a2, a3, a4, (IntKind.wrap .i64 (a5 + 1)), ()))
        | false => some (.inl (a0, a1, a2, a3, a4, (IntKind.wrap .i64 (a5 + 1)), ()))
 | false => some (.inr (.inr (.inl (a0, a1, ()))))
def lright_d [Lk] : ((Int × (List (Int × Int × Int × Bool × Unit)) × Unit) × Unit) → Option ((Bool × Unit)) := fun (a0, _) =>
 match lsized (a0.1, ()) with
 | none => none
 | some (y0, _) => match (!y0) with
  | true => some (false, ())
  | false => match (ilt 400 (dlen a0.2.1)) with
   | true => some (false, ())
   | false => match ltop (a0.1, ()) with
    | none => none
    | some (y1, _) => match iterL lright_s0 many (a0.1, a0.2.1, y1, a0.2.1, (dlen a0.2.1), 0, ()) with
     | none => none
     | some r => match r with
      | .inl (o2, _) => some (o2, ())
      | .inr r => match r with
       | .inl (o3, o4, _) => match ltrees ((o3, (o4, ())), 0, ()) with
        | none => none
        | some (y5, _) => match fof (o3, y5, ()) with
         | none => none
         | some (y6, y7, _) => match (ieq y7 0) with
          | true => some ((ieq (dlen y6.2.1) (IntKind.wrap .i64 (o3 - (dlen y5)))), ())
          | false => some (false, ())
       | .inr _ => none
def lright [Lk] := fun v => Lk.f (lright_d v)
theorem lright_eq v : lright v = lright_d v := lock_eq _
-- archipelago/level.Edges
abbrev ledges_i : Items := [(.tmp 0, .dat (.prod (.int .i64) (.prod (.slice (.prod (.int .i64) (.prod (.int .i64) (.prod (.int .i64) (.prod .bool .unit))))) .unit)))]
abbrev ledges_o : Items := [(.tmp 0, .own 70 (.prod (.int .i64) (.prod (.int .i64) .unit)))]
abbrev ledges_r : List RS := [.one]
abbrev ledges_i0 : Items := [(.tmp 3, .own 70 (.prod (.int .i64) (.prod (.int .i64) .unit))), (.tmp 10, .dat (.slice (.prod (.int .i64) (.prod (.int .i64) (.prod (.int .i64) (.prod .bool .unit)))))), (.tmp 11, .di), (.tmp 12, .di)]
abbrev ledges_o0 : Outs := [(.exit 0, [(.tmp 3, .own 70 (.prod (.int .i64) (.prod (.int .i64) .unit)))])]
def ledges_s0 [Lk] : (List (Int × Int × Unit) × List (Int × Int × Int × Bool × Unit) × Int × Int × Unit) → Option ((List (Int × Int × Unit) × List (Int × Int × Int × Bool × Unit) × Int × Int × Unit) ⊕ (List (Int × Int × Unit) × Unit) ⊕ Unit) := fun (a0, a1, a2, a3, _) =>
 match (ilt a3 a2) with
 | true => match idx a1 a3 with
  | none => none
  | some x0 => match (fits ((dlen a0) + (dlen ([(x0.1, (x0.2.1, ()))] : List (Int × Int × Unit))))) with
   | true => some (.inl ((dapp a0 ([(x0.1, (x0.2.1, ()))] : List (Int × Int × Unit))), a1, a2, (IntKind.wrap .i64 (a3 + 1)), ()))
   | false => none
 | false => some (.inr (.inl (a0, ())))
def ledges_d [Lk] : ((Int × (List (Int × Int × Int × Bool × Unit)) × Unit) × Unit) → Option ((List (Int × Int × Unit) × Unit)) := fun (a0, _) =>
 match lright ((a0.1, (a0.2.1, ())), ()) with
 | none => none
 | some (y0, _) => match (!y0) with
  | true => some (([] : List (Int × Int × Unit)), ())
  | false => match iterL ledges_s0 many (([] : List (Int × Int × Unit)), a0.2.1, (dlen a0.2.1), 0, ()) with
   | none => none
   | some r => match r with
    | .inl (o1, _) => some (o1, ())
    | .inr _ => none
def ledges [Lk] := fun v => Lk.f (ledges_d v)
theorem ledges_eq v : ledges v = ledges_d v := lock_eq _
-- archipelago/span.asked
abbrev sasked_i : Items := [(.tmp 0, .di), (.tmp 1, .dat (.slice (.prod (.int .i64) (.prod (.int .i64) .unit))))]
abbrev sasked_o : Items := [(.tmp 0, .di)]
abbrev sasked_r : List RS := [.one]
abbrev sasked_i0 : Items := [(.tmp 0, .di), (.tmp 13, .dat (.slice (.prod (.int .i64) (.prod (.int .i64) .unit)))), (.tmp 14, .di), (.tmp 15, .di)]
abbrev sasked_o0 : Outs := [(.ret, [(.tmp 4, .di)]), (.exit 0, [])]
def sasked_s0 [Lk] : (Int × List (Int × Int × Unit) × Int × Int × Unit) → Option ((Int × List (Int × Int × Unit) × Int × Int × Unit) ⊕ (Int × Unit) ⊕ (Unit) ⊕ Unit) := fun (a0, a1, a2, a3, _) =>
 match (ilt a3 a2) with
 | true => match idx a1 a3 with
  | none => none
  | some x0 => match (ilt (imin x0.1 x0.2.1) 0) with
   | true => some (.inr (.inl (10, ())))
   | false => match (ile a0 (imax x0.1 x0.2.1)) with
    | true => some (.inr (.inl (10, ())))
    | false => some (.inl (a0, a1, a2, (IntKind.wrap .i64 (a3 + 1)), ()))
 | false => some (.inr (.inr (.inl ())))
def sasked_d [Lk] : (Int × List (Int × Int × Unit) × Unit) → Option ((Int × Unit)) := fun (a0, a1, _) =>
 match (ilt a0 1) with
 | true => some (1, ())
 | false => match (ilt 64 a0) with
  | true => some (1, ())
  | false => match iterL sasked_s0 many (a0, a1, (dlen a1), 0, ()) with
   | none => none
   | some r => match r with
    | .inl (o0, _) => some (o0, ())
    | .inr r => match r with
     | .inl _ => some (0, ())
     | .inr _ => none
def sasked [Lk] := fun v => Lk.f (sasked_d v)
theorem sasked_eq v : sasked v = sasked_d v := lock_eq _
-- archipelago/span.alone
abbrev salone_i : Items := [(.tmp 0, .di)]
abbrev salone_o : Items := [(.tmp 0, .own 3 (.int .i64))]
abbrev salone_r : List RS := [.one]
abbrev salone_i0 : Items := [(.tmp 3, .own 3 (.int .i64)), (.tmp 8, .di), (.tmp 9, .di)]
abbrev salone_o0 : Outs := [(.exit 0, [(.tmp 3, .own 3 (.int .i64))])]
def salone_s0 [Lk] : (List Int × Int × Int × Unit) → Option ((List Int × Int × Int × Unit) ⊕ (List Int × Unit) ⊕ Unit) := fun (a0, a1, a2, _) =>
 match (ilt a2 a1) with
 | true => match idx a0 a2 with
  | none => none
  | some x0 => some (.inl ((dset a0 (dnat a2) a2), a1, (IntKind.wrap .i64 (a2 + 1)), ()))
 | false => some (.inr (.inl (a0, ())))
def salone_d [Lk] : (Int × Unit) → Option ((List Int × Unit)) := fun (a0, _) =>
 match (fitsI a0 && fitsI a0 && ile a0 a0 && true) with
 | true => match iterL salone_s0 many ((drep (dnat a0) (0 : Int)), (dlen (drep (dnat a0) (0 : Int))), (0 : Int), ()) with
  | none => none
  | some r => match r with
   | .inl (o0, _) => some (o0, ())
   | .inr _ => none
 | false => none
def salone [Lk] := fun v => Lk.f (salone_d v)
theorem salone_eq v : salone v = salone_d v := lock_eq _
-- (archipelago/span.sets).least
abbrev sleast_i : Items := [(.tmp 0, .own 3 (.int .i64)), (.tmp 1, .di)]
abbrev sleast_o : Items := [(.obj 0, .own 3 (.int .i64)), (.tmp 0, .di)]
abbrev sleast_r : List RS := [.one]
abbrev sleast_i0 : Items := [(.obj 0, .own 3 (.int .i64)), (.tmp 0, .own' 0), (.tmp 1, .di)]
abbrev sleast_o0 : Outs := [(.exit 0, [(.obj 0, .own 3 (.int .i64)), (.tmp 1, .di)])]
def sleast_s0 [Lk] : (List Int × Int × Unit) → Option ((List Int × Int × Unit) ⊕ (List Int × Int × Unit) ⊕ Unit) := fun (a0, a1, _) =>
 match idx a0 a1 with
 | none => none
 | some x0 => match (!(ieq (dget a0 (dnat a1) 0) a1)) with
  | true => match idx a0 a1 with
   | none => none
   | some x1 => match idx a0 (dget a0 (dnat a1) 0) with
    | none => none
    | some x2 => match idx a0 a1 with
     | none => none
     | some x3 => match idx (dset a0 (dnat a1) (dget a0 (dnat (dget a0 (dnat a1) 0)) 0)) a1 with
      | none => none
      | some x4 => some (.inl ((dset a0 (dnat a1) (dget a0 (dnat (dget a0 (dnat a1) 0)) 0)), (dget (dset a0 (dnat a1) (dget a0 (dnat (dget a0 (dnat a1) 0)) 0)) (dnat a1) 0), ()))
  | false => some (.inr (.inl (a0, a1, ())))
def sleast_d [Lk] : (List Int × Int × Unit) → Option ((List Int × Int × Unit)) := fun (a0, a1, _) =>
 match iterL sleast_s0 many (a0, a1, ()) with
 | none => none
 | some r => match r with
  | .inl (o0, o1, _) => some (o0, o1, ())
  | .inr _ => none
def sleast [Lk] := fun v => Lk.f (sleast_d v)
theorem sleast_eq v : sleast v = sleast_d v := lock_eq _
-- (archipelago/span.sets).join
abbrev sjoin_i : Items := [(.tmp 0, .own 3 (.int .i64)), (.tmp 1, .di), (.tmp 2, .di)]
abbrev sjoin_o : Items := [(.obj 0, .own 3 (.int .i64)), (.tmp 0, .dat .bool)]
abbrev sjoin_r : List RS := [.one]
def sjoin_d [Lk] : (List Int × Int × Int × Unit) → Option ((List Int × Bool × Unit)) := fun (a0, a1, a2, _) =>
 match sleast (a0, a1, ()) with
 | none => none
 | some (y0, y1, _) => match sleast (y0, a2, ()) with
  | none => none
  | some (y2, y3, _) => match idx y2 (imax y1 y3) with
   | none => none
   | some x4 => some ((dset y2 (dnat (imax y1 y3)) (imin y1 y3)), (!(ieq y1 y3)), ())
def sjoin [Lk] := fun v => Lk.f (sjoin_d v)
theorem sjoin_eq v : sjoin v = sjoin_d v := lock_eq _
-- archipelago/span.each
abbrev eachJoin_i : Items := [(.tmp 0, .dat (.slice (.prod (.int .i64) (.prod (.int .i64) .unit)))), (.cap 1 0, .own 3 (.int .i64)), (.tmp 1, .bnd 60 0)]
abbrev eachJoin_o : Items := [(.obj 0, .own 3 (.int .i64)), (.tmp 0, .own 4 .bool)]
abbrev eachJoin_r : List RS := [.one]
abbrev eachJoin_i0 : Items := [(.obj 0, .own 3 (.int .i64)), (.tmp 1, .bnd 60 0), (.tmp 5, .own 4 .bool), (.tmp 8, .dat (.slice (.prod (.int .i64) (.prod (.int .i64) .unit)))), (.tmp 9, .di), (.tmp 10, .di)]
abbrev eachJoin_o0 : Outs := [(.exit 0, [(.obj 0, .own 3 (.int .i64)), (.tmp 5, .own 4 .bool)])]
def eachJoin_s0 [Lk] : (List Int × List Bool × List (Int × Int × Unit) × Int × Int × Unit) → Option ((List Int × List Bool × List (Int × Int × Unit) × Int × Int × Unit) ⊕ (List Int × List Bool × Unit) ⊕ Unit) := fun (a0, a1, a2, a3, a4, _) =>
 match (ilt a4 a3) with
 | true => match idx a2 a4 with
  | none => none
  | some x0 => match sjoin (a0, x0.1, x0.2.1, ()) with
   | none => none
   | some (y1, y2, _) => match (fits ((dlen a1) + (dlen ([y2] : List (Bool))))) with
    | true => some (.inl (y1, (dapp a1 ([y2] : List (Bool))), a2, a3, (IntKind.wrap .i64 (a4 + 1)), ()))
    | false => none
 | false => some (.inr (.inl (a0, a1, ())))
def eachJoin_d [Lk] : (List (Int × Int × Unit) × List Int × Unit) → Option ((List Int × List Bool × Unit)) := fun (a0, a1, _) =>
 match iterL eachJoin_s0 many (a1, ([] : List (Bool)), a0, (dlen a0), 0, ()) with
 | none => none
 | some r => match r with
  | .inl (o0, o1, _) => some (o0, o1, ())
  | .inr _ => none
def eachJoin [Lk] := fun v => Lk.f (eachJoin_d v)
theorem eachJoin_eq v : eachJoin v = eachJoin_d v := lock_eq _
-- (archipelago/span.sets).joins
abbrev sjoins_i : Items := [(.tmp 0, .own 3 (.int .i64)), (.tmp 1, .dat (.slice (.prod (.int .i64) (.prod (.int .i64) .unit))))]
abbrev sjoins_o : Items := [(.obj 0, .own 3 (.int .i64)), (.tmp 0, .own 4 .bool)]
abbrev sjoins_r : List RS := [.one]
def sjoins_d [Lk] : (List Int × List (Int × Int × Unit) × Unit) → Option ((List Int × List Bool × Unit)) := fun (a0, a1, _) =>
 match eachJoin (a1, a0, ()) with
 | none => none
 | some (y0, y1, _) => some (y0, y1, ())
def sjoins [Lk] := fun v => Lk.f (sjoins_d v)
theorem sjoins_eq v : sjoins v = sjoins_d v := lock_eq _
-- archipelago/span.Classes
abbrev sclasses_i : Items := [(.tmp 0, .di), (.tmp 1, .dat (.slice (.prod (.int .i64) (.prod (.int .i64) .unit))))]
abbrev sclasses_o : Items := [(.tmp 0, .own 3 (.int .i64)), (.tmp 1, .di)]
abbrev sclasses_r : List RS := [.one, .one]
abbrev sclasses_i0 : Items := [(.tmp 7, .own 3 (.int .i64)), (.tmp 21, .di), (.tmp 22, .di)]
abbrev sclasses_o0 : Outs := [(.exit 0, [(.tmp 7, .own 3 (.int .i64))])]
def sclasses_s0 [Lk] : (List Int × Int × Int × Unit) → Option ((List Int × Int × Int × Unit) ⊕ (List Int × Unit) ⊕ Unit) := fun (a0, a1, a2, _) =>
 match (ilt a2 a1) with
 | true => match sleast (a0, a2, ()) with
  | none => none
  | some (y0, y1, _) => match idx y0 a2 with
   | none => none
   | some x2 => some (.inl ((dset y0 (dnat a2) y1), a1, (IntKind.wrap .i64 (a2 + 1)), ()))
 | false => some (.inr (.inl (a0, ())))
def sclasses_d [Lk] : (Int × List (Int × Int × Unit) × Unit) → Option ((List Int × Int × Unit)) := fun (a0, a1, _) =>
 match sasked (a0, a1, ()) with
 | none => none
 | some (y0, _) => match (!(ieq y0 0)) with
  | true => some (([] : List (Int)), y0, ())
  | false => match salone (a0, ()) with
   | none => none
   | some (y1, _) => match sjoins (y1, a1, ()) with
    | none => none
    | some (y2, y3, _) => match iterL sclasses_s0 many (y2, (dlen y2), 0, ()) with
     | none => none
     | some r => match r with
      | .inl (o4, _) => some (o4, 0, ())
      | .inr _ => none
def sclasses [Lk] := fun v => Lk.f (sclasses_d v)
theorem sclasses_eq v : sclasses v = sclasses_d v := lock_eq _
-- archipelago/say.of
abbrev sayof_i : Items := [(.tmp 0, .dat (.prod (.int .i64) (.prod (.slice (.prod (.int .i64) (.prod (.int .i64) (.prod (.int .i64) (.prod .bool .unit))))) .unit)))]
abbrev sayof_o : Items := [(.tmp 0, .own 3 (.int .i64)), (.tmp 1, .dat .bool)]
abbrev sayof_r : List RS := [.one, .one]
def sayof_d [Lk] : ((Int × (List (Int × Int × Int × Bool × Unit)) × Unit) × Unit) → Option ((List Int × Bool × Unit)) := fun (a0, _) =>
 match lright ((a0.1, (a0.2.1, ())), ()) with
 | none => none
 | some (y0, _) => match (!y0) with
  | true => some (([] : List (Int)), false, ())
  | false => match ledges ((a0.1, (a0.2.1, ())), ()) with
   | none => none
   | some (y1, _) => match sclasses (a0.1, y1, ()) with
    | none => none
    | some (y2, y3, _) => some (y2, true, ())
def sayof [Lk] := fun v => Lk.f (sayof_d v)
theorem sayof_eq v : sayof v = sayof_d v := lock_eq _
-- archipelago/say.fits
abbrev sfits_i : Items := [(.tmp 0, .di)]
abbrev sfits_o : Items := [(.tmp 0, .dat .bool)]
abbrev sfits_r : List RS := [.one]
def sfits_d [Lk] : (Int × Unit) → Option ((Bool × Unit)) := fun (a0, _) =>
 some ((ieq a0 (IntKind.wrap .i64 (IntKind.wrap .u16 a0))), ())
def sfits [Lk] := fun v => Lk.f (sfits_d v)
theorem sfits_eq v : sfits v = sfits_d v := lock_eq _
-- slices.IndexFunc[[]int,int]
abbrev idxFuncI_enc_i : Items := [(.tmp 0, .dat (.slice (.int .i64))), (.tmp 1, .clo 27 [])]
abbrev idxFuncI_enc_o : Items := [(.tmp 0, .di)]
abbrev idxFuncI_enc_r : List RS := [.one]
abbrev idxFuncI_enc_i0 : Items := [(.tmp 0, .dat (.slice (.int .i64))), (.tmp 1, .clo 27 []), (.tmp 7, .di), (.tmp 8, .di)]
abbrev idxFuncI_enc_o0 : Outs := [(.ret, [(.tmp 4, .di)]), (.exit 0, [])]
def idxFuncI_enc_s0 [Lk] : (List Int × Int × Int × Unit) → Option ((List Int × Int × Int × Unit) ⊕ (Int × Unit) ⊕ (Unit) ⊕ Unit) := fun (a0, a1, a2, _) =>
 match (ilt a2 a1) with
 | true => match idx a0 a2 with
  | none => none
  | some x0 => match sfits (x0, ()) with
   | none => none
   | some (y1, _) => match (!y1) with
    | true => some (.inr (.inl (a2, ())))
    | false => some (.inl (a0, a1, (IntKind.wrap .i64 (a2 + 1)), ()))
 | false => some (.inr (.inr (.inl ())))
def idxFuncI_enc_d [Lk] : (List Int × Unit) → Option ((Int × Unit)) := fun (a0, _) =>
 match iterL idxFuncI_enc_s0 many (a0, (dlen a0), 0, ()) with
 | none => none
 | some r => match r with
  | .inl (o0, _) => some (o0, ())
  | .inr r => match r with
   | .inl _ => some ((-1 : Int), ())
   | .inr _ => none
def idxFuncI_enc [Lk] := fun v => Lk.f (idxFuncI_enc_d v)
theorem idxFuncI_enc_eq v : idxFuncI_enc v = idxFuncI_enc_d v := lock_eq _
-- slices.ContainsFunc[[]int,int]
abbrev contFuncI_enc_i : Items := [(.tmp 0, .dat (.slice (.int .i64))), (.tmp 1, .clo 27 [])]
abbrev contFuncI_enc_o : Items := [(.tmp 0, .dat .bool)]
abbrev contFuncI_enc_r : List RS := [.one]
def contFuncI_enc_d [Lk] : (List Int × Unit) → Option ((Bool × Unit)) := fun (a0, _) =>
 match idxFuncI_enc (a0, ()) with
 | none => none
 | some (y0, _) => some ((ile 0 y0), ())
def contFuncI_enc [Lk] := fun v => Lk.f (contFuncI_enc_d v)
theorem contFuncI_enc_eq v : contFuncI_enc v = contFuncI_enc_d v := lock_eq _
-- archipelago/say.Encode
abbrev sencode_i : Items := [(.tmp 0, .dat (.prod (.int .i64) (.prod (.int .i64) (.prod (.slice (.int .i64)) .unit))))]
abbrev sencode_o : Items := [(.tmp 0, .own 5 (.int .u8)), (.tmp 1, .di)]
abbrev sencode_r : List RS := [.one, .one]
abbrev sencode_i0 : Items := [(.tmp 5, .own 5 (.int .u8)), (.tmp 33, .own 3 (.int .i64)), (.tmp 34, .di), (.tmp 35, .di)]
abbrev sencode_o0 : Outs := [(.exit 0, [(.tmp 5, .own 5 (.int .u8))])]
def sencode_s0 [Lk] : (List Int × List Int × Int × Int × Unit) → Option ((List Int × List Int × Int × Int × Unit) ⊕ (List Int × Unit) ⊕ Unit) := fun (a0, a1, a2, a3, _) =>
 match (ilt a3 a2) with
 | true => match idx a1 a3 with
  | none => none
  | some x0 => match shr? .i64 (dget a1 (dnat a3) 0) 8 with
   | none => none
   | some x1 => match (fits ((dlen a0) + (dlen ([(IntKind.wrap .u8 x1), (IntKind.wrap .u8 (dget a1 (dnat a3) 0))] : List (Int))))) with
    | true => some (.inl ((dapp a0 ([(IntKind.wrap .u8 x1), (IntKind.wrap .u8 (dget a1 (dnat a3) 0))] : List (Int))), a1, a2, (IntKind.wrap .i64 (a3 + 1)), ()))
    | false => none
 | false => some (.inr (.inl (a0, ())))
def sencode_d [Lk] : ((Int × Int × (List Int) × Unit) × Unit) → Option ((List Int × Int × Unit)) := fun (a0, _) =>
 match concatI (([([a0.2.1, (dlen a0.2.2.1)] : List (Int)), a0.2.2.1] : List (List Int)), ()) with
 | none => none
 | some (y0, _) => match (!(ieq a0.1 (IntKind.wrap .i64 (IntKind.wrap .u8 a0.1)))) with
  | true => some (([] : List (Int)), 1, ())
  | false => match contFuncI_enc (y0, ()) with
   | none => none
   | some (y1, _) => match y1 with
    | true => some (([] : List (Int)), 1, ())
    | false => match iterL sencode_s0 many (([(IntKind.wrap .u8 a0.1)] : List (Int)), y0, (dlen y0), 0, ()) with
     | none => none
     | some r => match r with
      | .inl (o2, _) => some (o2, 0, ())
      | .inr _ => none
def sencode [Lk] := fun v => Lk.f (sencode_d v)
theorem sencode_eq v : sencode v = sencode_d v := lock_eq _
-- slices.IndexFunc[[]int,int]
abbrev idxFuncI_cthere_i : Items := [(.tmp 0, .dat (.slice (.int .i64))), (.cap 1 0, .box 1), (.cell 0 0, .dat (.slice (.int .i64))), (.tmp 1, .clo 53 [(0, 0)])]
abbrev idxFuncI_cthere_o : Items := [(.obj 0, .box 1), (.cell 0 0, .dat (.slice (.int .i64))), (.tmp 0, .di)]
abbrev idxFuncI_cthere_r : List RS := [.one]
abbrev idxFuncI_cthere_i0 : Items := [(.obj 0, .box 1), (.cell 0 0, .dat (.slice (.int .i64))), (.tmp 0, .dat (.slice (.int .i64))), (.tmp 1, .clo 53 [(0, 0)]), (.tmp 7, .di), (.tmp 8, .di)]
abbrev idxFuncI_cthere_o0 : Outs := [(.ret, [(.obj 0, .box 1), (.cell 0 0, .dat (.slice (.int .i64))), (.tmp 4, .di)]), (.exit 0, [(.obj 0, .box 1), (.cell 0 0, .dat (.slice (.int .i64)))])]
def idxFuncI_cthere_s0 [Lk] : (List Int × List Int × Int × Int × Unit) → Option ((List Int × List Int × Int × Int × Unit) ⊕ (List Int × Int × Unit) ⊕ (List Int × Unit) ⊕ Unit) := fun (a0, a1, a2, a3, _) =>
 match (ilt a3 a2) with
 | true => match idx a1 a3 with
  | none => none
  | some x0 => match (ilt x0 0) with
   | true => some (.inr (.inl (a0, a3, ())))
   | false => match (ile (dlen a0) x0) with
    | true => some (.inr (.inl (a0, a3, ())))
    | false => some (.inl (a0, a1, a2, (IntKind.wrap .i64 (a3 + 1)), ()))
 | false => some (.inr (.inr (.inl (a0, ()))))
def idxFuncI_cthere_d [Lk] : (List Int × List Int × Unit) → Option ((List Int × Int × Unit)) := fun (a0, a1, _) =>
 match iterL idxFuncI_cthere_s0 many (a1, a0, (dlen a0), 0, ()) with
 | none => none
 | some r => match r with
  | .inl (o0, o1, _) => some (o0, o1, ())
  | .inr r => match r with
   | .inl (o2, _) => some (o2, (-1 : Int), ())
   | .inr _ => none
def idxFuncI_cthere [Lk] := fun v => Lk.f (idxFuncI_cthere_d v)
theorem idxFuncI_cthere_eq v : idxFuncI_cthere v = idxFuncI_cthere_d v := lock_eq _
-- slices.ContainsFunc[[]int,int]
abbrev contFuncI_cthere_i : Items := [(.tmp 0, .dat (.slice (.int .i64))), (.cap 1 0, .box 1), (.cell 0 0, .dat (.slice (.int .i64))), (.tmp 1, .clo 53 [(0, 0)])]
abbrev contFuncI_cthere_o : Items := [(.obj 0, .box 1), (.cell 0 0, .dat (.slice (.int .i64))), (.tmp 0, .dat .bool)]
abbrev contFuncI_cthere_r : List RS := [.one]
def contFuncI_cthere_d [Lk] : (List Int × List Int × Unit) → Option ((List Int × Bool × Unit)) := fun (a0, a1, _) =>
 match idxFuncI_cthere (a0, a1, ()) with
 | none => none
 | some (y0, y1, _) => some (y0, (ile 0 y1), ())
def contFuncI_cthere [Lk] := fun v => Lk.f (contFuncI_cthere_d v)
theorem contFuncI_cthere_eq v : contFuncI_cthere v = contFuncI_cthere_d v := lock_eq _
-- (archipelago/say.classes).there
abbrev cthere_i : Items := [(.tmp 0, .dat (.slice (.int .i64))), (.tmp 1, .dat (.slice (.int .i64)))]
abbrev cthere_o : Items := [(.tmp 0, .dat .bool)]
abbrev cthere_r : List RS := [.one]
def cthere_d [Lk] : (List Int × List Int × Unit) → Option ((Bool × Unit)) := fun (a0, a1, _) =>
 match contFuncI_cthere (a1, a0, ()) with
 | none => none
 | some (y0, y1, _) => some ((!y1), ())
def cthere [Lk] := fun v => Lk.f (cthere_d v)
theorem cthere_eq v : cthere v = cthere_d v := lock_eq _
-- (archipelago/say.classes).count
abbrev count1_i : Items := [(.tmp 0, .dat (.slice (.int .i64))), (.cap 1 0, .box 1), (.cell 0 0, .dat (.slice (.int .i64))), (.cap 1 1, .box 3), (.cell 1 0, .di), (.cell 1 1, .di), (.cell 1 2, .di), (.tmp 1, .clo 40 [(0, 0), (1, 0)])]
abbrev count1_o : Items := [(.obj 0, .box 1), (.cell 0 0, .dat (.slice (.int .i64))), (.obj 1, .box 3), (.cell 1 0, .di), (.cell 1 1, .di), (.cell 1 2, .di), (.tmp 0, .di)]
abbrev count1_r : List RS := [.one]
abbrev count1_i0 : Items := [(.obj 0, .box 1), (.cell 0 0, .dat (.slice (.int .i64))), (.obj 1, .box 3), (.cell 1 0, .di), (.cell 1 1, .di), (.cell 1 2, .di), (.tmp 1, .clo 40 [(0, 0), (1, 0)]), (.tmp 4, .di), (.tmp 7, .dat (.slice (.int .i64))), (.tmp 8, .di), (.tmp 9, .di)]
abbrev count1_o0 : Outs := [(.exit 0, [(.obj 0, .box 1), (.cell 0 0, .dat (.slice (.int .i64))), (.obj 1, .box 3), (.cell 1 0, .di), (.cell 1 1, .di), (.cell 1 2, .di), (.tmp 4, .di)])]
def count1_s0 [Lk] : (List Int × Int × Int × Int × Int × List Int × Int × Int × Unit) → Option ((List Int × Int × Int × Int × Int × List Int × Int × Int × Unit) ⊕ (List Int × Int × Int × Int × Int × Unit) ⊕ Unit) := fun (a0, a1, a2, a3, a4, a5, a6, a7, _) =>
 match (ilt a7 a6) with
 | true => match idx a5 a7 with
  | none => none
  | some x0 => match idx a0 a2 with
   | none => none
   | some x1 => match (ieq x0 x1) with
    | true => some (.inl (a0, a1, a2, a3, (IntKind.wrap .i64 (a4 + 1)), a5, a6, (IntKind.wrap .i64 (a7 + 1)), ()))
    | false => some (.inl (a0, a1, a2, a3, a4, a5, a6, (IntKind.wrap .i64 (a7 + 1)), ()))
 | false => some (.inr (.inl (a0, a1, a2, a3, a4, ())))
def count1_d [Lk] : (List Int × List Int × Int × Int × Int × Unit) → Option ((List Int × Int × Int × Int × Int × Unit)) := fun (a0, a1, a2, a3, a4, _) =>
 match iterL count1_s0 many (a1, a2, a3, a4, 0, a0, (dlen a0), 0, ()) with
 | none => none
 | some r => match r with
  | .inl (o0, o1, o2, o3, o4, _) => some (o0, o1, o2, o3, o4, ())
  | .inr _ => none
def count1 [Lk] := fun v => Lk.f (count1_d v)
theorem count1_eq v : count1 v = count1_d v := lock_eq _
-- (archipelago/say.classes).count
abbrev count2_i : Items := [(.tmp 0, .dat (.slice (.int .i64))), (.tmp 1, .clo 41 [])]
abbrev count2_o : Items := [(.tmp 0, .di)]
abbrev count2_r : List RS := [.one]
abbrev count2_i0 : Items := [(.tmp 1, .clo 41 []), (.tmp 4, .di), (.tmp 7, .dat (.slice (.int .i64))), (.tmp 8, .di), (.tmp 9, .di)]
abbrev count2_o0 : Outs := [(.exit 0, [(.tmp 4, .di)])]
def count2_s0 [Lk] : (Int × List Int × Int × Int × Unit) → Option ((Int × List Int × Int × Int × Unit) ⊕ (Int × Unit) ⊕ Unit) := fun (a0, a1, a2, a3, _) =>
 match (ilt a3 a2) with
 | true => match idx a1 a3 with
  | none => none
  | some x0 => match (ieq a3 x0) with
   | true => some (.inl ((IntKind.wrap .i64 (a0 + 1)), a1, a2, (IntKind.wrap .i64 (a3 + 1)), ()))
   | false => some (.inl (a0, a1, a2, (IntKind.wrap .i64 (a3 + 1)), ()))
 | false => some (.inr (.inl (a0, ())))
def count2_d [Lk] : (List Int × Unit) → Option ((Int × Unit)) := fun (a0, _) =>
 match iterL count2_s0 many (0, a0, (dlen a0), 0, ()) with
 | none => none
 | some r => match r with
  | .inl (o0, _) => some (o0, ())
  | .inr _ => none
def count2 [Lk] := fun v => Lk.f (count2_d v)
theorem count2_eq v : count2 v = count2_d v := lock_eq _
-- (archipelago/say.classes).answer
abbrev canswer_i : Items := [(.tmp 0, .dat (.slice (.int .i64))), (.tmp 1, .dat (.prod (.int .i64) (.prod (.int .i64) (.prod (.int .i64) .unit))))]
abbrev canswer_o : Items := [(.tmp 0, .di), (.tmp 1, .di)]
abbrev canswer_r : List RS := [.one, .one]
def canswer_d [Lk] : (List Int × (Int × Int × Int × Unit) × Unit) → Option ((Int × Int × Unit)) := fun (a0, a1, _) =>
 match (ieq a1.1 1) with
 | true => match cthere (a0, ([a1.2.1, a1.2.2.1] : List (Int)), ()) with
  | none => none
  | some (y0, _) => match (!y0) with
   | true => some (0, 10, ())
   | false => match idx a0 a1.2.1 with
    | none => none
    | some x1 => match idx a0 a1.2.2.1 with
     | none => none
     | some x2 => match (ieq x1 x2) with
      | true => some (1, 0, ())
      | false => some (0, 0, ())
 | false => match (ieq a1.1 2) with
  | true => match cthere (a0, ([a1.2.1] : List (Int)), ()) with
   | none => none
   | some (y3, _) => match (!y3) with
    | true => some (0, 10, ())
    | false => match (ieq a1.1 2) with
     | true => match idx a0 a1.2.1 with
      | none => none
      | some x4 => some (x4, 0, ())
     | false => match count1 (a0, a0, a1.1, a1.2.1, a1.2.2.1, ()) with
      | none => none
      | some (y5, y6, y7, y8, y9, _) => some (y9, 0, ())
  | false => match (ieq a1.1 3) with
   | true => match cthere (a0, ([a1.2.1] : List (Int)), ()) with
    | none => none
    | some (y10, _) => match (!y10) with
     | true => some (0, 10, ())
     | false => match (ieq a1.1 2) with
      | true => match idx a0 a1.2.1 with
       | none => none
       | some x11 => some (x11, 0, ())
      | false => match count1 (a0, a0, a1.1, a1.2.1, a1.2.2.1, ()) with
       | none => none
       | some (y12, y13, y14, y15, y16, _) => some (y16, 0, ())
   | false => match (ieq a1.1 4) with
    | true => match count2 (a0, ()) with
     | none => none
     | some (y17, _) => some (y17, 0, ())
    | false => some (0, 1, ())
def canswer [Lk] := fun v => Lk.f (canswer_d v)
theorem canswer_eq v : canswer v = canswer_d v := lock_eq _
-- archipelago/say.Answers
abbrev sanswers_i : Items := [(.tmp 0, .dat (.prod (.int .i64) (.prod (.slice (.prod (.int .i64) (.prod (.int .i64) (.prod (.int .i64) (.prod .bool .unit))))) .unit))), (.tmp 1, .dat (.slice (.prod (.int .i64) (.prod (.int .i64) (.prod (.int .i64) .unit)))))]
abbrev sanswers_o : Items := [(.tmp 0, .own 3 (.int .i64)), (.tmp 1, .di)]
abbrev sanswers_r : List RS := [.one, .one]
abbrev sanswers_i0 : Items := [(.tmp 6, .own 3 (.int .i64)), (.tmp 8, .own 3 (.int .i64)), (.tmp 20, .dat (.slice (.prod (.int .i64) (.prod (.int .i64) (.prod (.int .i64) .unit))))), (.tmp 21, .di), (.tmp 22, .di)]
abbrev sanswers_o0 : Outs := [(.ret, [(.tmp 4, .nil (.int .i64)), (.tmp 5, .di)]), (.exit 0, [(.tmp 8, .own 3 (.int .i64))])]
def sanswers_s0 [Lk] : (List Int × List Int × List (Int × Int × Int × Unit) × Int × Int × Unit) → Option ((List Int × List Int × List (Int × Int × Int × Unit) × Int × Int × Unit) ⊕ (Int × Unit) ⊕ (List Int × Unit) ⊕ Unit) := fun (a0, a1, a2, a3, a4, _) =>
 match (ilt a4 a3) with
 | true => match idx a2 a4 with
  | none => none
  | some x0 => match canswer (a0, (x0.1, (x0.2.1, (x0.2.2.1, ()))), ()) with
   | none => none
   | some (y1, y2, _) => match (!(ieq y2 0)) with
    | true => some (.inr (.inl (y2, ())))
    | false => match (fits ((dlen a1) + (dlen ([y1] : List (Int))))) with
     | true => some (.inl (a0, (dapp a1 ([y1] : List (Int))), a2, a3, (IntKind.wrap .i64 (a4 + 1)), ()))
     | false => none
 | false => some (.inr (.inr (.inl (a1, ()))))
def sanswers_d [Lk] : ((Int × (List (Int × Int × Int × Bool × Unit)) × Unit) × List (Int × Int × Int × Unit) × Unit) → Option ((List Int × Int × Unit)) := fun (a0, a1, _) =>
 match sayof ((a0.1, (a0.2.1, ())), ()) with
 | none => none
 | some (y0, y1, _) => match (!y1) with
  | true => some (([] : List (Int)), 1, ())
  | false => match iterL sanswers_s0 many (y0, ([] : List (Int)), a1, (dlen a1), 0, ()) with
   | none => none
   | some r => match r with
    | .inl (o2, _) => some (([] : List (Int)), o2, ())
    | .inr r => match r with
     | .inl (o3, _) => some (o3, 0, ())
     | .inr _ => none
def sanswers [Lk] := fun v => Lk.f (sanswers_d v)
theorem sanswers_eq v : sanswers v = sanswers_d v := lock_eq _
-- archipelago/say.Answer
abbrev sanswer_i : Items := [(.tmp 0, .dat (.prod (.int .i64) (.prod (.slice (.prod (.int .i64) (.prod (.int .i64) (.prod (.int .i64) (.prod .bool .unit))))) .unit))), (.tmp 1, .dat (.prod (.int .i64) (.prod (.int .i64) (.prod (.int .i64) .unit))))]
abbrev sanswer_o : Items := [(.tmp 0, .di), (.tmp 1, .di)]
abbrev sanswer_r : List RS := [.one, .one]
def sanswer_d [Lk] : ((Int × (List (Int × Int × Int × Bool × Unit)) × Unit) × (Int × Int × Int × Unit) × Unit) → Option ((Int × Int × Unit)) := fun (a0, a1, _) =>
 match sayof ((a0.1, (a0.2.1, ())), ()) with
 | none => none
 | some (y0, y1, _) => match (!y1) with
  | true => some (0, 1, ())
  | false => match canswer (y0, (a1.1, (a1.2.1, (a1.2.2.1, ()))), ()) with
   | none => none
   | some (y2, y3, _) => some (y2, y3, ())
def sanswer [Lk] := fun v => Lk.f (sanswer_d v)
theorem sanswer_eq v : sanswer v = sanswer_d v := lock_eq _
-- archipelago/wire.Number
abbrev wnumber_i : Items := [(.tmp 0, .dat (.slice (.int .u8))), (.tmp 1, .di)]
abbrev wnumber_o : Items := [(.tmp 0, .di), (.tmp 1, .dat .bool)]
abbrev wnumber_r : List RS := [.one, .one]
def wnumber_d [Lk] : (List Int × Int × Unit) → Option ((Int × Bool × Unit)) := fun (a0, a1, _) =>
 match (ilt a1 0) with
 | true => some (0, false, ())
 | false => match (ilt (IntKind.wrap .i64 ((dlen a0) - 2)) a1) with
  | true => some (0, false, ())
  | false => match idx a0 a1 with
   | none => none
   | some x0 => match shl? .i64 (IntKind.wrap .i64 x0) 8 with
    | none => none
    | some x1 => match idx a0 (IntKind.wrap .i64 (a1 + 1)) with
     | none => none
     | some x2 => some ((IntKind.wrap .i64 ((BitVec.ofInt (IntKind.bits .i64) x1 ||| BitVec.ofInt (IntKind.bits .i64) (IntKind.wrap .i64 x2)).toNat)), true, ())
def wnumber [Lk] := fun v => Lk.f (wnumber_d v)
theorem wnumber_eq v : wnumber v = wnumber_d v := lock_eq _
-- archipelago/say.Decode
abbrev sdecode_i : Items := [(.tmp 0, .dat (.slice (.int .u8)))]
abbrev sdecode_o : Items := [(.tmp 0, .di), (.tmp 1, .di), (.tmp 2, .own 3 (.int .i64)), (.tmp 3, .di), (.tmp 4, .di)]
abbrev sdecode_r : List RS := [.agg 3, .one, .one]
abbrev sdecode_i0 : Items := [(.tmp 0, .dat (.slice (.int .u8))), (.tmp 2, .box 3), (.cell 0 0, .di), (.cell 0 1, .di), (.cell 0 2, .nil (.int .i64)), (.tmp 5, .di), (.tmp 7, .box 3), (.cell 1 0, .di), (.cell 1 1, .di), (.cell 1 2, .own 3 (.int .i64)), (.tmp 40, .di), (.tmp 41, .di)]
abbrev sdecode_o0 : Outs := [(.exit 0, [(.tmp 2, .box 3), (.cell 0 0, .di), (.cell 0 1, .di), (.cell 0 2, .nil (.int .i64)), (.tmp 5, .di), (.tmp 7, .box 3), (.cell 1 0, .di), (.cell 1 1, .di), (.cell 1 2, .own 3 (.int .i64))])]
def sdecode_s0 [Lk] : (List Int × Int × Int × Int × Int × Int × List Int × Int × Int × Unit) → Option ((List Int × Int × Int × Int × Int × Int × List Int × Int × Int × Unit) ⊕ (Int × Int × Int × Int × Int × List Int × Unit) ⊕ Unit) := fun (a0, a1, a2, a3, a4, a5, a6, a7, a8, _) =>
 match (ilt a8 a7) with
 | true => match wnumber (a0, (IntKind.wrap .i64 (5 + (IntKind.wrap .i64 (2 * a8)))), ()) with
  | none => none
  | some (y0, y1, _) => match (fits ((dlen a6) + (dlen ([y0] : List (Int))))) with
   | true => some (.inl (a0, a1, a2, a3, a4, a5, (dapp a6 ([y0] : List (Int))), a7, (IntKind.wrap .i64 (a8 + 1)), ()))
   | false => none
 | false => some (.inr (.inl (a1, a2, a3, a4, a5, a6, ())))
def sdecode_d [Lk] : (List Int × Unit) → Option ((Int × Int × List Int × Int × Int × Unit)) := fun (a0, _) =>
 match wnumber (a0, 3, ()) with
 | none => none
 | some (y0, y1, _) => match (!y1) with
  | true => some (0, 0, ([] : List (Int)), (dlen a0), 7, ())
  | false => match (ilt (dlen a0) (IntKind.wrap .i64 (5 + (IntKind.wrap .i64 (2 * y0))))) with
   | true => some (0, 0, ([] : List (Int)), (dlen a0), 7, ())
   | false => match idx a0 0 with
    | none => none
    | some x2 => match wnumber (a0, 1, ()) with
     | none => none
     | some (y3, y4, _) => match iterL sdecode_s0 many (a0, 0, 0, y0, (IntKind.wrap .i64 x2), y3, ([] : List (Int)), y0, 0, ()) with
      | none => none
      | some r => match r with
       | .inl (o5, o6, o7, o8, o9, o10, _) => some (o8, o9, o10, (IntKind.wrap .i64 (5 + (IntKind.wrap .i64 (2 * o7)))), 0, ())
       | .inr _ => none
def sdecode [Lk] := fun v => Lk.f (sdecode_d v)
theorem sdecode_eq v : sdecode v = sdecode_d v := lock_eq _
-- slices.Equal[[]int,int]
abbrev equalI_i : Items := [(.tmp 0, .dat (.slice (.int .i64))), (.tmp 1, .dat (.slice (.int .i64)))]
abbrev equalI_o : Items := [(.tmp 0, .dat .bool)]
abbrev equalI_r : List RS := [.one]
abbrev equalI_i0 : Items := [(.tmp 0, .dat (.slice (.int .i64))), (.tmp 1, .dat (.slice (.int .i64))), (.tmp 12, .di), (.tmp 13, .di)]
abbrev equalI_o0 : Outs := [(.ret, [(.tmp 4, .dat .bool)]), (.exit 0, [])]
def equalI_s0 [Lk] : (List Int × List Int × Int × Int × Unit) → Option ((List Int × List Int × Int × Int × Unit) ⊕ (Bool × Unit) ⊕ (Unit) ⊕ Unit) := fun (a0, a1, a2, a3, _) =>
 match (ilt a3 a2) with
 | true => match idx a0 a3 with
  | none => none
  | some x0 => match idx a1 a3 with
   | none => none
   | some x1 => match (!(ieq x0 x1)) with
    | true => some (.inr (.inl (false, ())))
    | false => some (.inl (a0, a1, a2, (IntKind.wrap .i64 (a3 + 1)), ()))
 | false => some (.inr (.inr (.inl ())))
def equalI_d [Lk] : (List Int × List Int × Unit) → Option ((Bool × Unit)) := fun (a0, a1, _) =>
 match (!(ieq (dlen a0) (dlen a1))) with
 | true => some (false, ())
 | false => match iterL equalI_s0 many (a0, a1, (dlen a0), 0, ()) with
  | none => none
  | some r => match r with
   | .inl (o0, _) => some (o0, ())
   | .inr r => match r with
    | .inl _ => some (true, ())
    | .inr _ => none
def equalI [Lk] := fun v => Lk.f (equalI_d v)
theorem equalI_eq v : equalI v = equalI_d v := lock_eq _
-- archipelago/say.Same
abbrev ssame_i : Items := [(.tmp 0, .dat (.prod (.int .i64) (.prod (.int .i64) (.prod (.slice (.int .i64)) .unit)))), (.tmp 1, .dat (.prod (.int .i64) (.prod (.int .i64) (.prod (.slice (.int .i64)) .unit))))]
abbrev ssame_o : Items := [(.tmp 0, .dat .bool)]
abbrev ssame_r : List RS := [.one]
def ssame_d [Lk] : ((Int × Int × (List Int) × Unit) × (Int × Int × (List Int) × Unit) × Unit) → Option ((Bool × Unit)) := fun (a0, a1, _) =>
 match (ieq a0.1 a1.1) with
 | true => match (ieq a0.2.1 a1.2.1) with
  | true => match equalI (a0.2.2.1, a1.2.2.1, ()) with
   | none => none
   | some (y0, _) => some (y0, ())
  | false => some (false, ())
 | false => some (false, ())
def ssame [Lk] := fun v => Lk.f (ssame_d v)
theorem ssame_eq v : ssame v = ssame_d v := lock_eq _
-- archipelago/archipelagoref27.short
abbrev short27_i : Items := [(.tmp 0, .di)]
abbrev short27_o : Items := [(.tmp 0, .dat .bool)]
abbrev short27_r : List RS := [.one]
def short27_d [Lk] : (Int × Unit) → Option ((Bool × Unit)) := fun (a0, _) =>
 match (ile 0 a0) with
 | true => some ((ile a0 65535), ())
 | false => some (false, ())
def short27 [Lk] := fun v => Lk.f (short27_d v)
theorem short27_eq v : short27 v = short27_d v := lock_eq _
-- archipelago/archipelagoref27.two
abbrev two27_i : Items := [(.tmp 0, .di)]
abbrev two27_o : Items := [(.tmp 0, .own 5 (.int .u8))]
abbrev two27_r : List RS := [.one]
def two27_d [Lk] : (Int × Unit) → Option ((List Int × Unit)) := fun (a0, _) =>
 match quo? .i64 a0 256 with
 | none => none
 | some x0 => match rem? a0 256 with
  | none => none
  | some x1 => some (([(IntKind.wrap .u8 x0), (IntKind.wrap .u8 x1)] : List (Int)), ())
def two27 [Lk] := fun v => Lk.f (two27_d v)
theorem two27_eq v : two27 v = two27_d v := lock_eq _
-- archipelago/archipelagoref27.Encode
abbrev encode27_i : Items := [(.tmp 0, .dat (.prod (.int .i64) (.prod (.int .i64) (.prod (.slice (.int .i64)) .unit))))]
abbrev encode27_o : Items := [(.tmp 0, .own 5 (.int .u8)), (.tmp 1, .di)]
abbrev encode27_r : List RS := [.one, .one]
abbrev encode27_i0 : Items := [(.tmp 1, .box 3), (.cell 0 0, .di), (.cell 0 1, .di), (.cell 0 2, .dat (.slice (.int .i64))), (.tmp 4, .own 5 (.int .u8)), (.tmp 5, .di)]
abbrev encode27_o0 : Outs := [(.ret, [(.tmp 2, .nil (.int .u8)), (.tmp 3, .di)]), (.exit 0, [(.tmp 4, .own 5 (.int .u8))])]
def encode27_s0 [Lk] : (Int × Int × List Int × List Int × Int × Unit) → Option ((Int × Int × List Int × List Int × Int × Unit) ⊕ (Int × Unit) ⊕ (List Int × Unit) ⊕ Unit) := fun (a0, a1, a2, a3, a4, _) =>
 match (ilt a4 (dlen a2)) with
 | true => match idx a2 a4 with
  | none => none
  | some x0 => match short27 (x0, ()) with
   | none => none
   | some (y1, _) => match (!y1) with
    | true => some (.inr (.inl (1, ())))
    | false => match idx a2 a4 with
     | none => none
     | some x2 => match two27 (x2, ()) with
      | none => none
      | some (y3, _) => match (fits ((dlen a3) + (dlen y3))) with
       | true => some (.inl (a0, a1, a2, (dapp a3 y3), (IntKind.wrap .i64 (a4 + 1)), ()))
       | false => none
 | false => some (.inr (.inr (.inl (a3, ()))))
def encode27_d [Lk] : ((Int × Int × (List Int) × Unit) × Unit) → Option ((List Int × Int × Unit)) := fun (a0, _) =>
 match (ilt a0.1 0) with
 | true => some (([] : List (Int)), 1, ())
 | false => match (ilt 255 a0.1) with
  | true => some (([] : List (Int)), 1, ())
  | false => match short27 (a0.2.1, ()) with
   | none => none
   | some (y0, _) => match (!y0) with
    | true => some (([] : List (Int)), 1, ())
    | false => match short27 ((dlen a0.2.2.1), ()) with
     | none => none
     | some (y1, _) => match (!y1) with
      | true => some (([] : List (Int)), 1, ())
      | false => match two27 (a0.2.1, ()) with
       | none => none
       | some (y2, _) => match (fits ((dlen ([(IntKind.wrap .u8 a0.1)] : List (Int))) + (dlen y2))) with
        | true => match two27 ((dlen a0.2.2.1), ()) with
         | none => none
         | some (y3, _) => match (fits ((dlen (dapp ([(IntKind.wrap .u8 a0.1)] : List (Int)) y2)) + (dlen y3))) with
          | true => match iterL encode27_s0 many (a0.1, a0.2.1, a0.2.2.1, (dapp (dapp ([(IntKind.wrap .u8 a0.1)] : List (Int)) y2) y3), 0, ()) with
           | none => none
           | some r => match r with
            | .inl (o4, _) => some (([] : List (Int)), o4, ())
            | .inr r => match r with
             | .inl (o5, _) => some (o5, 0, ())
             | .inr _ => none
          | false => none
        | false => none
def encode27 [Lk] := fun v => Lk.f (encode27_d v)
theorem encode27_eq v : encode27 v = encode27_d v := lock_eq _
-- archipelago/archipelagoref25.Number
abbrev number25_i : Items := [(.tmp 0, .dat (.slice (.int .u8))), (.tmp 1, .di)]
abbrev number25_o : Items := [(.tmp 0, .di), (.tmp 1, .dat .bool)]
abbrev number25_r : List RS := [.one, .one]
def number25_d [Lk] : (List Int × Int × Unit) → Option ((Int × Bool × Unit)) := fun (a0, a1, _) =>
 match (ilt a1 0) with
 | true => some (0, false, ())
 | false => match (ile (IntKind.wrap .i64 ((dlen a0) - 1)) a1) with
  | true => some (0, false, ())
  | false => match idx a0 a1 with
   | none => none
   | some x0 => match idx a0 (IntKind.wrap .i64 (a1 + 1)) with
    | none => none
    | some x1 => some ((IntKind.wrap .i64 ((IntKind.wrap .i64 ((IntKind.wrap .i64 x0) * 256)) + (IntKind.wrap .i64 x1))), true, ())
def number25 [Lk] := fun v => Lk.f (number25_d v)
theorem number25_eq v : number25 v = number25_d v := lock_eq _
-- archipelago/archipelagoref27.Decode
abbrev decode27_i : Items := [(.tmp 0, .dat (.slice (.int .u8)))]
abbrev decode27_o : Items := [(.tmp 0, .di), (.tmp 1, .di), (.tmp 2, .own 3 (.int .i64)), (.tmp 3, .di), (.tmp 4, .di)]
abbrev decode27_r : List RS := [.agg 3, .one, .one]
abbrev decode27_i0 : Items := [(.tmp 0, .dat (.slice (.int .u8))), (.tmp 2, .box 3), (.cell 0 0, .di), (.cell 0 1, .di), (.cell 0 2, .nil (.int .i64)), (.tmp 7, .di), (.tmp 9, .box 3), (.cell 1 0, .di), (.cell 1 1, .di), (.cell 1 2, .own 3 (.int .i64)), (.tmp 10, .di)]
abbrev decode27_o0 : Outs := [(.exit 0, [(.tmp 2, .box 3), (.cell 0 0, .di), (.cell 0 1, .di), (.cell 0 2, .nil (.int .i64)), (.tmp 7, .di), (.tmp 9, .box 3), (.cell 1 0, .di), (.cell 1 1, .di), (.cell 1 2, .own 3 (.int .i64))])]
def decode27_s0 [Lk] : (List Int × Int × Int × Int × Int × Int × List Int × Int × Unit) → Option ((List Int × Int × Int × Int × Int × Int × List Int × Int × Unit) ⊕ (Int × Int × Int × Int × Int × List Int × Unit) ⊕ Unit) := fun (a0, a1, a2, a3, a4, a5, a6, a7, _) =>
 match (ilt a7 a3) with
 | true => match number25 (a0, (IntKind.wrap .i64 (5 + (IntKind.wrap .i64 (2 * a7)))), ()) with
  | none => none
  | some (y0, y1, _) => match (fits ((dlen a6) + (dlen ([y0] : List (Int))))) with
   | true => some (.inl (a0, a1, a2, a3, a4, a5, (dapp a6 ([y0] : List (Int))), (IntKind.wrap .i64 (a7 + 1)), ()))
   | false => none
 | false => some (.inr (.inl (a1, a2, a3, a4, a5, a6, ())))
def decode27_d [Lk] : (List Int × Unit) → Option ((Int × Int × List Int × Int × Int × Unit)) := fun (a0, _) =>
 match number25 (a0, 1, ()) with
 | none => none
 | some (y0, y1, _) => match number25 (a0, 3, ()) with
  | none => none
  | some (y2, y3, _) => match (!y3) with
   | true => some (0, 0, ([] : List (Int)), (dlen a0), 7, ())
   | false => match (ilt (dlen a0) (IntKind.wrap .i64 (5 + (IntKind.wrap .i64 (2 * y2))))) with
    | true => some (0, 0, ([] : List (Int)), (dlen a0), 7, ())
    | false => match idx a0 0 with
     | none => none
     | some x4 => match iterL decode27_s0 many (a0, 0, 0, y2, (IntKind.wrap .i64 x4), y0, ([] : List (Int)), 0, ()) with
      | none => none
      | some r => match r with
       | .inl (o5, o6, o7, o8, o9, o10, _) => some (o8, o9, o10, (IntKind.wrap .i64 (5 + (IntKind.wrap .i64 (2 * o7)))), 0, ())
       | .inr _ => none
def decode27 [Lk] := fun v => Lk.f (decode27_d v)
theorem decode27_eq v : decode27 v = decode27_d v := lock_eq _
-- archipelago/archipelagoref27.Same
abbrev same27_i : Items := [(.tmp 0, .dat (.prod (.int .i64) (.prod (.int .i64) (.prod (.slice (.int .i64)) .unit)))), (.tmp 1, .dat (.prod (.int .i64) (.prod (.int .i64) (.prod (.slice (.int .i64)) .unit))))]
abbrev same27_o : Items := [(.tmp 0, .dat .bool)]
abbrev same27_r : List RS := [.one]
def same27_d [Lk] : ((Int × Int × (List Int) × Unit) × (Int × Int × (List Int) × Unit) × Unit) → Option ((Bool × Unit)) := fun (a0, a1, _) =>
 match (ieq a0.1 a1.1) with
 | true => match (ieq a0.2.1 a1.2.1) with
  | true => match ints01 (a0.2.2.1, a1.2.2.1, ()) with
   | none => none
   | some (y0, _) => some (y0, ())
  | false => some (false, ())
 | false => some (false, ())
def same27 [Lk] := fun v => Lk.f (same27_d v)
theorem same27_eq v : same27 v = same27_d v := lock_eq _
-- archipelago/archipelagoref19.Classes
abbrev classes19_i : Items := [(.tmp 0, .di), (.tmp 1, .dat (.slice (.prod (.int .i64) (.prod (.int .i64) .unit))))]
abbrev classes19_o : Items := [(.tmp 0, .own 3 (.int .i64))]
abbrev classes19_r : List RS := [.one]
abbrev classes19_i2 : Items := [(.tmp 0, .di), (.tmp 1, .dat (.slice (.prod (.int .i64) (.prod (.int .i64) .unit)))), (.tmp 5, .own 3 (.int .i64)), (.tmp 7, .dat .bool), (.tmp 8, .di)]
abbrev classes19_o2 : Outs := [(.exit 4, [(.tmp 0, .di), (.tmp 1, .dat (.slice (.prod (.int .i64) (.prod (.int .i64) .unit)))), (.tmp 5, .own 3 (.int .i64)), (.tmp 7, .dat .bool)])]
def classes19_s2 [Lk] : (Int × List (Int × Int × Unit) × List Int × Bool × Int × Unit) → Option ((Int × List (Int × Int × Unit) × List Int × Bool × Int × Unit) ⊕ (Int × List (Int × Int × Unit) × List Int × Bool × Unit) ⊕ Unit) := fun (a0, a1, a2, a3, a4, _) =>
 match (ilt a4 (dlen a1)) with
 | true => match idx a1 a4 with
  | none => none
  | some x0 => match idx a1 a4 with
   | none => none
   | some x1 => match (ilt x0.1 0) with
    | true => some (.inl (a0, a1, a2, a3, (IntKind.wrap .i64 (a4 + 1)), ()))
    | false => match (ilt x1.2.1 0) with
     | true => some (.inl (a0, a1, a2, a3, (IntKind.wrap .i64 (a4 + 1)), ()))
     | false => match (ile a0 x0.1) with
      | true => some (.inl (a0, a1, a2, a3, (IntKind.wrap .i64 (a4 + 1)), ()))
      | false => match (ile a0 x1.2.1) with
       | true => some (.inl (a0, a1, a2, a3, (IntKind.wrap .i64 (a4 + 1)), ()))
       | false => match idx a2 x0.1 with
        | none => none
        | some x2 => match idx a2 x1.2.1 with
         | none => none
         | some x3 => match (ieq (dget a2 (dnat x0.1) 0) (dget a2 (dnat x1.2.1) 0)) with
          | true => some (.inl (a0, a1, a2, a3, (IntKind.wrap .i64 (a4 + 1)), ()))
          | false => match idx a2 x0.1 with
           | none => none
           | some x4 => match idx a2 x1.2.1 with
            | none => none
            | some x5 => match idx a2 x0.1 with
             | none => none
             | some x6 => match idx (dset a2 (dnat x0.1) (imin (dget a2 (dnat x0.1) 0) (dget a2 (dnat x1.2.1) 0))) x1.2.1 with
              | none => none
              | some x7 => some (.inl (a0, a1, (dset (dset a2 (dnat x0.1) (imin (dget a2 (dnat x0.1) 0) (dget a2 (dnat x1.2.1) 0))) (dnat x1.2.1) (imin (dget a2 (dnat x0.1) 0) (dget a2 (dnat x1.2.1) 0))), true, (IntKind.wrap .i64 (a4 + 1)), ()))
 | false => some (.inr (.inl (a0, a1, a2, a3, ())))
abbrev classes19_i1 : Items := [(.tmp 0, .di), (.tmp 1, .dat (.slice (.prod (.int .i64) (.prod (.int .i64) .unit)))), (.tmp 5, .own 3 (.int .i64)), (.tmp 7, .dat .bool)]
abbrev classes19_o1 : Outs := [(.exit 2, [(.tmp 5, .own 3 (.int .i64))])]
def classes19_s1 [Lk] : (Int × List (Int × Int × Unit) × List Int × Bool × Unit) → Option ((Int × List (Int × Int × Unit) × List Int × Bool × Unit) ⊕ (List Int × Unit) ⊕ Unit) := fun (a0, a1, a2, a3, _) =>
 match a3 with
 | true => match iterL classes19_s2 many (a0, a1, a2, false, 0, ()) with
  | none => none
  | some r => match r with
   | .inl (o0, o1, o2, o3, _) => some (.inl (o0, o1, o2, o3, ()))
   | .inr _ => none
 | false => some (.inr (.inl (a2, ())))
abbrev classes19_i0 : Items := [(.tmp 0, .di), (.tmp 1, .dat (.slice (.prod (.int .i64) (.prod (.int .i64) .unit)))), (.tmp 5, .own 3 (.int .i64)), (.tmp 6, .di)]
abbrev classes19_o0 : Outs := [(.exit 0, [(.tmp 0, .di), (.tmp 1, .dat (.slice (.prod (.int .i64) (.prod (.int .i64) .unit)))), (.tmp 5, .own 3 (.int .i64))])]
def classes19_s0 [Lk] : (Int × List (Int × Int × Unit) × List Int × Int × Unit) → Option ((Int × List (Int × Int × Unit) × List Int × Int × Unit) ⊕ (Int × List (Int × Int × Unit) × List Int × Unit) ⊕ Unit) := fun (a0, a1, a2, a3, _) =>
 match (ilt a3 a0) with
 | true => match (fits ((dlen a2) + (dlen ([a3] : List (Int))))) with
  | true => some (.inl (a0, a1, (dapp a2 ([a3] : List (Int))), (IntKind.wrap .i64 (a3 + 1)), ()))
  | false => none
 | false => some (.inr (.inl (a0, a1, a2, ())))
def classes19_d [Lk] : (Int × List (Int × Int × Unit) × Unit) → Option ((List Int × Unit)) := fun (a0, a1, _) =>
 match iterL classes19_s0 many (a0, a1, ([] : List (Int)), 0, ()) with
 | none => none
 | some r => match r with
  | .inl (o0, o1, o2, _) => match iterL classes19_s1 many (o0, o1, o2, true, ()) with
   | none => none
   | some r => match r with
    | .inl (o3, _) => some (o3, ())
    | .inr _ => none
  | .inr _ => none
def classes19 [Lk] := fun v => Lk.f (classes19_d v)
theorem classes19_eq v : classes19 v = classes19_d v := lock_eq _
-- archipelago/archipelagoref21.Top
abbrev top21_i : Items := [(.tmp 0, .di)]
abbrev top21_o : Items := [(.tmp 0, .di)]
abbrev top21_r : List RS := [.one]
abbrev top21_i0 : Items := [(.tmp 3, .di), (.tmp 4, .di)]
abbrev top21_o0 : Outs := [(.exit 0, [(.tmp 3, .di)])]
def top21_s0 [Lk] : (Int × Int × Unit) → Option ((Int × Int × Unit) ⊕ (Int × Unit) ⊕ Unit) := fun (a0, a1, _) =>
 match (ilt 0 a1) with
 | true => match quo? .i64 a1 2 with
  | none => none
  | some x0 => some (.inl ((IntKind.wrap .i64 (a0 + 1)), x0, ()))
 | false => some (.inr (.inl (a0, ())))
def top21_d [Lk] : (Int × Unit) → Option ((Int × Unit)) := fun (a0, _) =>
 match (ilt a0 1) with
 | true => some (0, ())
 | false => match (ilt 64 a0) with
  | true => some (0, ())
  | false => match iterL top21_s0 many (0, (IntKind.wrap .i64 (a0 - 1)), ()) with
   | none => none
   | some r => match r with
    | .inl (o0, _) => some (o0, ())
    | .inr _ => none
def top21 [Lk] := fun v => Lk.f (top21_d v)
theorem top21_eq v : top21 v = top21_d v := lock_eq _
-- archipelago/archipelagoref21.Right
abbrev right21_i : Items := [(.tmp 0, .dat (.prod (.int .i64) (.prod (.slice (.prod (.int .i64) (.prod (.int .i64) (.prod (.int .i64) (.prod .bool .unit))))) .unit)))]
abbrev right21_o : Items := [(.tmp 0, .dat .bool)]
abbrev right21_r : List RS := [.one]
abbrev right21_i1 : Items := [(.tmp 1, .box 2), (.cell 0 0, .di), (.cell 0 1, .dat (.slice (.prod (.int .i64) (.prod (.int .i64) (.prod (.int .i64) (.prod .bool .unit)))))), (.tmp 3, .own 70 (.prod (.int .i64) (.prod (.int .i64) .unit))), (.tmp 6, .own 3 (.int .i64)), (.tmp 7, .di), (.tmp 8, .di)]
abbrev right21_o1 : Outs := [(.exit 2, [(.tmp 1, .box 2), (.cell 0 0, .di), (.cell 0 1, .dat (.slice (.prod (.int .i64) (.prod (.int .i64) (.prod (.int .i64) (.prod .bool .unit)))))), (.tmp 3, .own 70 (.prod (.int .i64) (.prod (.int .i64) .unit))), (.tmp 7, .di)])]
def right21_s1 [Lk] : (Int × List (Int × Int × Int × Bool × Unit) × List (Int × Int × Unit) × List Int × Int × Int × Unit) → Option ((Int × List (Int × Int × Int × Bool × Unit) × List (Int × Int × Unit) × List Int × Int × Int × Unit) ⊕ (Int × List (Int × Int × Int × Bool × Unit) × List (Int × Int × Unit) × Int × Unit) ⊕ Unit) := fun (a0, a1, a2, a3, a4, a5, _) =>
 match (ilt a5 a0) with
 | true => match idx a3 a5 with
  | none => none
  | some x0 => match (ieq (dget a3 (dnat a5) 0) a5) with
   | true => some (.inl (a0, a1, a2, a3, (IntKind.wrap .i64 (a4 + 1)), (IntKind.wrap .i64 (a5 + 1)), ()))
   | false => some (.inl (a0, a1, a2, a3, a4, (IntKind.wrap .i64 (a5 + 1)), ()))
 | false => some (.inr (.inl (a0, a1, a2, a4, ())))
abbrev right21_i0 : Items := [(.tmp 1, .box 2), (.cell 0 0, .di), (.cell 0 1, .dat (.slice (.prod (.int .i64) (.prod (.int .i64) (.prod (.int .i64) (.prod .bool .unit)))))), (.tmp 3, .own 70 (.prod (.int .i64) (.prod (.int .i64) .unit))), (.tmp 4, .di)]
abbrev right21_o0 : Outs := [(.ret, [(.tmp 2, .dat .bool)]), (.exit 0, [(.tmp 1, .box 2), (.cell 0 0, .di), (.cell 0 1, .dat (.slice (.prod (.int .i64) (.prod (.int .i64) (.prod (.int .i64) (.prod .bool .unit)))))), (.tmp 3, .own 70 (.prod (.int .i64) (.prod (.int .i64) .unit)))])]
def right21_s0 [Lk] : (Int × List (Int × Int × Int × Bool × Unit) × List (Int × Int × Unit) × Int × Unit) → Option ((Int × List (Int × Int × Int × Bool × Unit) × List (Int × Int × Unit) × Int × Unit) ⊕ (Bool × Unit) ⊕ (Int × List (Int × Int × Int × Bool × Unit) × List (Int × Int × Unit) × Unit) ⊕ Unit) := fun (a0, a1, a2, a3, _) =>
 match (ilt a3 (dlen a1)) with
 | true => match idx a1 a3 with
  | none => none
  | some x0 => match (ilt x0.1 0) with
   | true => some (.inr (.inl (false, ())))
   | false => match (ile x0.2.1 x0.1) with
    | true => some (.inr (.inl (false, ())))
    | false => match (ile a0 x0.2.1) with
     | true => some (.inr (.inl (false, ())))
     | false => match (ilt x0.2.2.1 0) with
      | true => some (.inr (.inl (false, ())))
      | false => match top21 (a0, ()) with
       | none => none
       | some (y1, _) => match (ilt y1 x0.2.2.1) with
        | true => some (.inr (.inl (false, ())))
        | false => match (ilt 0 a3) with
         | true => match idx a1 (IntKind.wrap .i64 (a3 - 1)) with
          | none => none
          | some x2 => match (ilt x0.1 x2.1) with
           | true => some (.inr (.inl (false, ())))
           | false => match idx a1 (IntKind.wrap .i64 (a3 - 1)) with
            | none => none
            | some x3 => match (ieq x3.1 x0.1) with
             | true => match idx a1 (IntKind.wrap .i64 (a3 - 1)) with
              | none => none
              | some x4 => match (ile x0.2.1 x4.2.1) with
               | true => some (.inr (.inl (false, ())))
               | false => match x0.2.2.2.1 with
                | true => match (fits ((dlen a2) + (dlen ([(x0.1, (x0.2.1, ()))] : List (Int × Int × Unit))))) with
                 | true => some (.inl (a0, a1, (dapp a2 ([(x0.1, (x0.2.1, ()))] : List (Int × Int × Unit))), (IntKind.wrap .i64 (a3 + 1)), ()))
                 | false => none
                | false => some (.inl (a0, a1, a2, (IntKind.wrap .i64 (a3 + 1)), ()))
             | false => match x0.2.2.2.1 with
              | true => match (fits ((dlen a2) + (dlen ([(x0.1, (x0.2.1, ()))] : List (Int × Int × Unit))))) with
               | true => some (.inl (a0, a1, (dapp a2 ([(x0.1, (x0.2.1, ()))] : List (Int × Int × Unit))), (IntKind.wrap .i64 (a3 + 1)), ()))
               | false => none
              | false => some (.inl (a0, a1, a2, (IntKind.wrap .i64 (a3 + 1)), ()))
         | false => match x0.2.2.2.1 with
          | true => match (fits ((dlen a2) + (dlen ([(x0.1, (x0.2.1, ()))] : List (Int × Int × Unit))))) with
           | true => some (.inl (a0, a1, (dapp a2 ([(x0.1, (x0.2.1, ()))] : List (Int × Int × Unit))), (IntKind.wrap .i64 (a3 + 1)), ()))
           | false => none
          | false => some (.inl (a0, a1, a2, (IntKind.wrap .i64 (a3 + 1)), ()))
 | false => some (.inr (.inr (.inl (a0, a1, a2, ()))))
def right21_d [Lk] : ((Int × (List (Int × Int × Int × Bool × Unit)) × Unit) × Unit) → Option ((Bool × Unit)) := fun (a0, _) =>
 match (ilt a0.1 1) with
 | true => some (false, ())
 | false => match (ilt 64 a0.1) with
  | true => some (false, ())
  | false => match (ilt 400 (dlen a0.2.1)) with
   | true => some (false, ())
   | false => match iterL right21_s0 many (a0.1, a0.2.1, ([] : List (Int × Int × Unit)), 0, ()) with
    | none => none
    | some r => match r with
     | .inl (o0, _) => some (o0, ())
     | .inr r => match r with
      | .inl (o1, o2, o3, _) => match classes19 (o1, o3, ()) with
       | none => none
       | some (y4, _) => match iterL right21_s1 many (o1, o2, o3, y4, 0, 0, ()) with
        | none => none
        | some r => match r with
         | .inl (o5, o6, o7, o8, _) => some ((ieq o8 (IntKind.wrap .i64 (o5 - (dlen o7)))), ())
         | .inr _ => none
      | .inr _ => none
def right21 [Lk] := fun v => Lk.f (right21_d v)
theorem right21_eq v : right21 v = right21_d v := lock_eq _
-- archipelago/archipelagoref21.Edges
abbrev edges21_i : Items := [(.tmp 0, .dat (.prod (.int .i64) (.prod (.slice (.prod (.int .i64) (.prod (.int .i64) (.prod (.int .i64) (.prod .bool .unit))))) .unit)))]
abbrev edges21_o : Items := [(.tmp 0, .own 70 (.prod (.int .i64) (.prod (.int .i64) .unit)))]
abbrev edges21_r : List RS := [.one]
abbrev edges21_i0 : Items := [(.tmp 1, .box 2), (.cell 0 0, .di), (.cell 0 1, .dat (.slice (.prod (.int .i64) (.prod (.int .i64) (.prod (.int .i64) (.prod .bool .unit)))))), (.tmp 3, .own 70 (.prod (.int .i64) (.prod (.int .i64) .unit))), (.tmp 4, .di)]
abbrev edges21_o0 : Outs := [(.exit 0, [(.tmp 3, .own 70 (.prod (.int .i64) (.prod (.int .i64) .unit)))])]
def edges21_s0 [Lk] : (Int × List (Int × Int × Int × Bool × Unit) × List (Int × Int × Unit) × Int × Unit) → Option ((Int × List (Int × Int × Int × Bool × Unit) × List (Int × Int × Unit) × Int × Unit) ⊕ (List (Int × Int × Unit) × Unit) ⊕ Unit) := fun (a0, a1, a2, a3, _) =>
 match (ilt a3 (dlen a1)) with
 | true => match idx a1 a3 with
  | none => none
  | some x0 => match idx a1 a3 with
   | none => none
   | some x1 => match (fits ((dlen a2) + (dlen ([(x0.1, (x1.2.1, ()))] : List (Int × Int × Unit))))) with
    | true => some (.inl (a0, a1, (dapp a2 ([(x0.1, (x1.2.1, ()))] : List (Int × Int × Unit))), (IntKind.wrap .i64 (a3 + 1)), ()))
    | false => none
 | false => some (.inr (.inl (a2, ())))
def edges21_d [Lk] : ((Int × (List (Int × Int × Int × Bool × Unit)) × Unit) × Unit) → Option ((List (Int × Int × Unit) × Unit)) := fun (a0, _) =>
 match right21 ((a0.1, (a0.2.1, ())), ()) with
 | none => none
 | some (y0, _) => match (!y0) with
  | true => some (([] : List (Int × Int × Unit)), ())
  | false => match iterL edges21_s0 many (a0.1, a0.2.1, ([] : List (Int × Int × Unit)), 0, ()) with
   | none => none
   | some r => match r with
    | .inl (o1, _) => some (o1, ())
    | .inr _ => none
def edges21 [Lk] := fun v => Lk.f (edges21_d v)
theorem edges21_eq v : edges21 v = edges21_d v := lock_eq _
-- archipelago/archipelagoref26.Vertices
abbrev vertices26_i : Items := [(.tmp 0, .dat (.prod (.int .i64) (.prod (.slice (.prod (.int .i64) (.prod (.int .i64) .unit))) (.prod (.slice (.prod (.int .i64) (.prod (.int .i64) (.prod (.int .i64) .unit)))) .unit))))]
abbrev vertices26_o : Items := [(.tmp 0, .own 3 (.int .i64))]
abbrev vertices26_r : List RS := [.one]
abbrev vertices26_i1 : Items := [(.tmp 1, .box 3), (.cell 0 0, .di), (.cell 0 1, .dat (.slice (.prod (.int .i64) (.prod (.int .i64) .unit)))), (.cell 0 2, .dat (.slice (.prod (.int .i64) (.prod (.int .i64) (.prod (.int .i64) .unit))))), (.tmp 3, .own 3 (.int .i64)), (.tmp 5, .di)]
abbrev vertices26_o1 : Outs := [(.exit 2, [(.tmp 3, .own 3 (.int .i64))])]
def vertices26_s1 [Lk] : (Int × List (Int × Int × Unit) × List (Int × Int × Int × Unit) × List Int × Int × Unit) → Option ((Int × List (Int × Int × Unit) × List (Int × Int × Int × Unit) × List Int × Int × Unit) ⊕ (List Int × Unit) ⊕ Unit) := fun (a0, a1, a2, a3, a4, _) =>
 match (ilt a4 (dlen a2)) with
 | true => match idx a2 a4 with
  | none => none
  | some x0 => match (ile 1 x0.1) with
   | true => match (ile x0.1 3) with
    | true => match (fits ((dlen a3) + (dlen ([x0.2.1] : List (Int))))) with
     | true => match (ieq x0.1 1) with
      | true => match (fits ((dlen (dapp a3 ([x0.2.1] : List (Int)))) + (dlen ([x0.2.2.1] : List (Int))))) with
       | true => some (.inl (a0, a1, a2, (dapp (dapp a3 ([x0.2.1] : List (Int))) ([x0.2.2.1] : List (Int))), (IntKind.wrap .i64 (a4 + 1)), ()))
       | false => none
      | false => some (.inl (a0, a1, a2, (dapp a3 ([x0.2.1] : List (Int))), (IntKind.wrap .i64 (a4 + 1)), ()))
     | false => none
    | false => match (ieq x0.1 1) with
     | true => match (fits ((dlen a3) + (dlen ([x0.2.2.1] : List (Int))))) with
      | true => some (.inl (a0, a1, a2, (dapp a3 ([x0.2.2.1] : List (Int))), (IntKind.wrap .i64 (a4 + 1)), ()))
      | false => none
     | false => some (.inl (a0, a1, a2, a3, (IntKind.wrap .i64 (a4 + 1)), ()))
   | false => match (ieq x0.1 1) with
    | true => match (fits ((dlen a3) + (dlen ([x0.2.2.1] : List (Int))))) with
     | true => some (.inl (a0, a1, a2, (dapp a3 ([x0.2.2.1] : List (Int))), (IntKind.wrap .i64 (a4 + 1)), ()))
     | false => none
    | false => some (.inl (a0, a1, a2, a3, (IntKind.wrap .i64 (a4 + 1)), ()))
 | false => some (.inr (.inl (a3, ())))
abbrev vertices26_i0 : Items := [(.tmp 1, .box 3), (.cell 0 0, .di), (.cell 0 1, .dat (.slice (.prod (.int .i64) (.prod (.int .i64) .unit)))), (.cell 0 2, .dat (.slice (.prod (.int .i64) (.prod (.int .i64) (.prod (.int .i64) .unit))))), (.tmp 3, .own 3 (.int .i64)), (.tmp 4, .di)]
abbrev vertices26_o0 : Outs := [(.exit 0, [(.tmp 1, .box 3), (.cell 0 0, .di), (.cell 0 1, .dat (.slice (.prod (.int .i64) (.prod (.int .i64) .unit)))), (.cell 0 2, .dat (.slice (.prod (.int .i64) (.prod (.int .i64) (.prod (.int .i64) .unit))))), (.tmp 3, .own 3 (.int .i64))])]
def vertices26_s0 [Lk] : (Int × List (Int × Int × Unit) × List (Int × Int × Int × Unit) × List Int × Int × Unit) → Option ((Int × List (Int × Int × Unit) × List (Int × Int × Int × Unit) × List Int × Int × Unit) ⊕ (Int × List (Int × Int × Unit) × List (Int × Int × Int × Unit) × List Int × Unit) ⊕ Unit) := fun (a0, a1, a2, a3, a4, _) =>
 match (ilt a4 (dlen a1)) with
 | true => match idx a1 a4 with
  | none => none
  | some x0 => match idx a1 a4 with
   | none => none
   | some x1 => match (fits ((dlen a3) + (dlen ([x0.1, x1.2.1] : List (Int))))) with
    | true => some (.inl (a0, a1, a2, (dapp a3 ([x0.1, x1.2.1] : List (Int))), (IntKind.wrap .i64 (a4 + 1)), ()))
    | false => none
 | false => some (.inr (.inl (a0, a1, a2, a3, ())))
def vertices26_d [Lk] : ((Int × (List (Int × Int × Unit)) × (List (Int × Int × Int × Unit)) × Unit) × Unit) → Option ((List Int × Unit)) := fun (a0, _) =>
 match iterL vertices26_s0 many (a0.1, a0.2.1, a0.2.2.1, ([] : List (Int)), 0, ()) with
 | none => none
 | some r => match r with
  | .inl (o0, o1, o2, o3, _) => match iterL vertices26_s1 many (o0, o1, o2, o3, 0, ()) with
   | none => none
   | some r => match r with
    | .inl (o4, _) => some (o4, ())
    | .inr _ => none
  | .inr _ => none
def vertices26 [Lk] := fun v => Lk.f (vertices26_d v)
theorem vertices26_eq v : vertices26 v = vertices26_d v := lock_eq _
-- archipelago/archipelagoref27.Answer
abbrev answer27_i : Items := [(.tmp 0, .dat (.prod (.int .i64) (.prod (.slice (.prod (.int .i64) (.prod (.int .i64) (.prod (.int .i64) (.prod .bool .unit))))) .unit))), (.tmp 1, .dat (.prod (.int .i64) (.prod (.int .i64) (.prod (.int .i64) .unit))))]
abbrev answer27_o : Items := [(.tmp 0, .di), (.tmp 1, .di)]
abbrev answer27_r : List RS := [.one, .one]
abbrev answer27_i1 : Items := [(.tmp 2, .box 2), (.cell 0 0, .di), (.cell 0 1, .dat (.slice (.prod (.int .i64) (.prod (.int .i64) (.prod (.int .i64) (.prod .bool .unit)))))), (.tmp 3, .box 3), (.cell 1 0, .di), (.cell 1 1, .di), (.cell 1 2, .di), (.tmp 8, .own 3 (.int .i64)), (.tmp 9, .di), (.tmp 10, .di)]
abbrev answer27_o1 : Outs := [(.exit 2, [(.tmp 3, .box 3), (.cell 0 0, .di), (.cell 0 1, .di), (.cell 0 2, .di), (.tmp 8, .own 3 (.int .i64)), (.tmp 9, .di)])]
def answer27_s1 [Lk] : (Int × List (Int × Int × Int × Bool × Unit) × Int × Int × Int × List Int × Int × Int × Unit) → Option ((Int × List (Int × Int × Int × Bool × Unit) × Int × Int × Int × List Int × Int × Int × Unit) ⊕ (Int × Int × Int × List Int × Int × Unit) ⊕ Unit) := fun (a0, a1, a2, a3, a4, a5, a6, a7, _) =>
 match (ilt a7 a0) with
 | true => match (ieq a2 4) with
  | true => match idx a5 a7 with
   | none => none
   | some x0 => match (ieq (dget a5 (dnat a7) 0) a7) with
    | true => some (.inl (a0, a1, a2, a3, a4, a5, (IntKind.wrap .i64 (a6 + 1)), (IntKind.wrap .i64 (a7 + 1)), ()))
    | false => match (ieq a2 3) with
     | true => match idx a5 a7 with
      | none => none
      | some x1 => match idx a5 a3 with
       | none => none
       | some x2 => match (ieq (dget a5 (dnat a7) 0) (dget a5 (dnat a3) 0)) with
        | true => some (.inl (a0, a1, a2, a3, a4, a5, (IntKind.wrap .i64 (a6 + 1)), (IntKind.wrap .i64 (a7 + 1)), ()))
        | false => some (.inl (a0, a1, a2, a3, a4, a5, a6, (IntKind.wrap .i64 (a7 + 1)), ()))
     | false => some (.inl (a0, a1, a2, a3, a4, a5, a6, (IntKind.wrap .i64 (a7 + 1)), ()))
  | false => match (ieq a2 3) with
   | true => match idx a5 a7 with
    | none => none
    | some x3 => match idx a5 a3 with
     | none => none
     | some x4 => match (ieq (dget a5 (dnat a7) 0) (dget a5 (dnat a3) 0)) with
      | true => some (.inl (a0, a1, a2, a3, a4, a5, (IntKind.wrap .i64 (a6 + 1)), (IntKind.wrap .i64 (a7 + 1)), ()))
      | false => some (.inl (a0, a1, a2, a3, a4, a5, a6, (IntKind.wrap .i64 (a7 + 1)), ()))
   | false => some (.inl (a0, a1, a2, a3, a4, a5, a6, (IntKind.wrap .i64 (a7 + 1)), ()))
 | false => some (.inr (.inl (a2, a3, a4, a5, a6, ())))
abbrev answer27_i0 : Items := [(.tmp 2, .box 2), (.cell 0 0, .di), (.cell 0 1, .dat (.slice (.prod (.int .i64) (.prod (.int .i64) (.prod (.int .i64) (.prod .bool .unit)))))), (.tmp 3, .box 3), (.cell 1 0, .di), (.cell 1 1, .di), (.cell 1 2, .di), (.tmp 6, .own 3 (.int .i64)), (.tmp 7, .di)]
abbrev answer27_o0 : Outs := [(.ret, [(.tmp 4, .di), (.tmp 5, .di)]), (.exit 0, [(.tmp 2, .box 2), (.cell 0 0, .di), (.cell 0 1, .dat (.slice (.prod (.int .i64) (.prod (.int .i64) (.prod (.int .i64) (.prod .bool .unit)))))), (.tmp 3, .box 3), (.cell 1 0, .di), (.cell 1 1, .di), (.cell 1 2, .di)])]
def answer27_s0 [Lk] : (Int × List (Int × Int × Int × Bool × Unit) × Int × Int × Int × List Int × Int × Unit) → Option ((Int × List (Int × Int × Int × Bool × Unit) × Int × Int × Int × List Int × Int × Unit) ⊕ (Int × Int × Unit) ⊕ (Int × List (Int × Int × Int × Bool × Unit) × Int × Int × Int × Unit) ⊕ Unit) := fun (a0, a1, a2, a3, a4, a5, a6, _) =>
 match (ilt a6 (dlen a5)) with
 | true => match idx a5 a6 with
  | none => none
  | some x0 => match (ilt (dget a5 (dnat a6) 0) 0) with
   | true => some (.inr (.inl (0, 10, ())))
   | false => match idx a5 a6 with
    | none => none
    | some x1 => match (ile a0 (dget a5 (dnat a6) 0)) with
     | true => some (.inr (.inl (0, 10, ())))
     | false => some (.inl (a0, a1, a2, a3, a4, a5, (IntKind.wrap .i64 (a6 + 1)), ()))
 | false => some (.inr (.inr (.inl (a0, a1, a2, a3, a4, ()))))
def answer27_d [Lk] : ((Int × (List (Int × Int × Int × Bool × Unit)) × Unit) × (Int × Int × Int × Unit) × Unit) → Option ((Int × Int × Unit)) := fun (a0, a1, _) =>
 match right21 ((a0.1, (a0.2.1, ())), ()) with
 | none => none
 | some (y0, _) => match (!y0) with
  | true => some (0, 1, ())
  | false => match (ilt a1.1 1) with
   | true => some (0, 1, ())
   | false => match (ilt 4 a1.1) with
    | true => some (0, 1, ())
    | false => match vertices26 ((0, (([] : List (Int × Int × Unit)), (([(a1.1, (a1.2.1, (a1.2.2.1, ())))] : List (Int × Int × Int × Unit)), ()))), ()) with
     | none => none
     | some (y1, _) => match iterL answer27_s0 many (a0.1, a0.2.1, a1.1, a1.2.1, a1.2.2.1, y1, 0, ()) with
      | none => none
      | some r => match r with
       | .inl (o2, o3, _) => some (o2, o3, ())
       | .inr r => match r with
        | .inl (o4, o5, o6, o7, o8, _) => match edges21 ((o4, (o5, ())), ()) with
         | none => none
         | some (y9, _) => match classes19 (o4, y9, ()) with
          | none => none
          | some (y10, _) => match iterL answer27_s1 many (o4, o5, o6, o7, o8, y10, 0, 0, ()) with
           | none => none
           | some r => match r with
            | .inl (o11, o12, o13, o14, o15, _) => match (ieq o11 1) with
             | true => match idx o14 o12 with
              | none => none
              | some x16 => match idx o14 o13 with
               | none => none
               | some x17 => match (ieq (dget o14 (dnat o12) 0) (dget o14 (dnat o13) 0)) with
                | true => some (1, 0, ())
                | false => match (ieq o11 2) with
                 | true => match idx o14 o12 with
                  | none => none
                  | some x18 => some ((dget o14 (dnat o12) 0), 0, ())
                 | false => some (o15, 0, ())
             | false => match (ieq o11 2) with
              | true => match idx o14 o12 with
               | none => none
               | some x19 => some ((dget o14 (dnat o12) 0), 0, ())
              | false => some (o15, 0, ())
            | .inr _ => none
        | .inr _ => none
def answer27 [Lk] := fun v => Lk.f (answer27_d v)
theorem answer27_eq v : answer27 v = answer27_d v := lock_eq _
-- archipelago/archipelagoref27.Answers
abbrev answers27_i : Items := [(.tmp 0, .dat (.prod (.int .i64) (.prod (.slice (.prod (.int .i64) (.prod (.int .i64) (.prod (.int .i64) (.prod .bool .unit))))) .unit))), (.tmp 1, .dat (.slice (.prod (.int .i64) (.prod (.int .i64) (.prod (.int .i64) .unit)))))]
abbrev answers27_o : Items := [(.tmp 0, .own 3 (.int .i64)), (.tmp 1, .di)]
abbrev answers27_r : List RS := [.one, .one]
abbrev answers27_i0 : Items := [(.tmp 1, .dat (.slice (.prod (.int .i64) (.prod (.int .i64) (.prod (.int .i64) .unit))))), (.tmp 2, .box 2), (.cell 0 0, .di), (.cell 0 1, .dat (.slice (.prod (.int .i64) (.prod (.int .i64) (.prod (.int .i64) (.prod .bool .unit)))))), (.tmp 6, .own 3 (.int .i64)), (.tmp 7, .di)]
abbrev answers27_o0 : Outs := [(.ret, [(.tmp 4, .nil (.int .i64)), (.tmp 5, .di)]), (.exit 0, [(.tmp 6, .own 3 (.int .i64))])]
def answers27_s0 [Lk] : (List (Int × Int × Int × Unit) × Int × List (Int × Int × Int × Bool × Unit) × List Int × Int × Unit) → Option ((List (Int × Int × Int × Unit) × Int × List (Int × Int × Int × Bool × Unit) × List Int × Int × Unit) ⊕ (Int × Unit) ⊕ (List Int × Unit) ⊕ Unit) := fun (a0, a1, a2, a3, a4, _) =>
 match (ilt a4 (dlen a0)) with
 | true => match idx a0 a4 with
  | none => none
  | some x0 => match answer27 ((a1, (a2, ())), (x0.1, (x0.2.1, (x0.2.2.1, ()))), ()) with
   | none => none
   | some (y1, y2, _) => match (!(ieq y2 0)) with
    | true => some (.inr (.inl (y2, ())))
    | false => match (fits ((dlen a3) + (dlen ([y1] : List (Int))))) with
     | true => some (.inl (a0, a1, a2, (dapp a3 ([y1] : List (Int))), (IntKind.wrap .i64 (a4 + 1)), ()))
     | false => none
 | false => some (.inr (.inr (.inl (a3, ()))))
def answers27_d [Lk] : ((Int × (List (Int × Int × Int × Bool × Unit)) × Unit) × List (Int × Int × Int × Unit) × Unit) → Option ((List Int × Int × Unit)) := fun (a0, a1, _) =>
 match right21 ((a0.1, (a0.2.1, ())), ()) with
 | none => none
 | some (y0, _) => match (!y0) with
  | true => some (([] : List (Int)), 1, ())
  | false => match iterL answers27_s0 many (a1, a0.1, a0.2.1, ([] : List (Int)), 0, ()) with
   | none => none
   | some r => match r with
    | .inl (o1, _) => some (([] : List (Int)), o1, ())
    | .inr r => match r with
     | .inl (o2, _) => some (o2, 0, ())
     | .inr _ => none
def answers27 [Lk] := fun v => Lk.f (answers27_d v)
theorem answers27_eq v : answers27 v = answers27_d v := lock_eq _
-- archipelago/archipelagolaw27.alive
abbrev alive27_i : Items := []
abbrev alive27_o : Items := [(.tmp 0, .dat .bool)]
abbrev alive27_r : List RS := [.one]
def alive27_d [Lk] : (Unit) → Option ((Bool × Unit)) := fun _ =>
 match sanswers ((4, (([(0, (2, (0, (true, ())))), (2, (3, (0, (true, ()))))] : List (Int × Int × Int × Bool × Unit)), ())), ([(1, (3, (0, ()))), (1, (1, (0, ()))), (2, (3, (0, ()))), (3, (2, (0, ()))), (4, (0, (0, ())))] : List (Int × Int × Int × Unit)), ()) with
 | none => none
 | some (y0, y1, _) => match sanswer ((4, (([(0, (2, (0, (true, ())))), (2, (3, (0, (true, ()))))] : List (Int × Int × Int × Bool × Unit)), ())), (2, (4, (0, ()))), ()) with
  | none => none
  | some (y2, y3, _) => match sencode ((2, (259, (([1, 65535] : List (Int)), ()))), ()) with
   | none => none
   | some (y4, y5, _) => match (fits ((dlen y4) + (dlen ([9] : List (Int))))) with
    | true => match sdecode ((dapp y4 ([9] : List (Int))), ()) with
     | none => none
     | some (y6, y7, y8, y9, y10, _) => match sdecode (([0, 0, 0, 0, 1, 5] : List (Int)), ()) with
      | none => none
      | some (y11, y12, y13, y14, y15, _) => match (ieq y1 0) with
       | true => match (ieq y3 10) with
        | true => match (ieq y5 0) with
         | true => match (ieq y10 0) with
          | true => match (ieq y15 7) with
           | true => match (ieq y14 6) with
            | true => match ints01 (y0, ([1, 0, 0, 3, 2] : List (Int)), ()) with
             | none => none
             | some (y16, _) => match y16 with
              | true => match (seq? (dbytes y4) ([2, 1, 3, 0, 2, 0, 1, 255, 255] : List (Int))) with
               | true => match (ieq y9 9) with
                | true => match ssame ((y6, (y7, (y8, ()))), (2, (259, (([1, 65535] : List (Int)), ()))), ()) with
                 | none => none
                 | some (y17, _) => some (y17, ())
                | false => some (false, ())
               | false => some (false, ())
              | false => some (false, ())
            | false => some (false, ())
           | false => some (false, ())
          | false => some (false, ())
         | false => some (false, ())
        | false => some (false, ())
       | false => some (false, ())
    | false => none
def alive27 [Lk] := fun v => Lk.f (alive27_d v)
theorem alive27_eq v : alive27 v = alive27_d v := lock_eq _
-- archipelago/archipelagolaw27.SayAnswers
abbrev sayAnswers_i : Items := [(.tmp 0, .dat (.prod (.int .i64) (.prod (.slice (.prod (.int .i64) (.prod (.int .i64) (.prod (.int .i64) (.prod .bool .unit))))) .unit))), (.tmp 1, .dat (.slice (.prod (.int .i64) (.prod (.int .i64) (.prod (.int .i64) .unit)))))]
abbrev sayAnswers_o : Items := [(.tmp 0, .dat .bool)]
abbrev sayAnswers_r : List RS := [.one]
abbrev sayAnswers_i0 : Items := [(.tmp 1, .dat (.slice (.prod (.int .i64) (.prod (.int .i64) (.prod (.int .i64) .unit))))), (.tmp 2, .box 2), (.cell 0 0, .di), (.cell 0 1, .dat (.slice (.prod (.int .i64) (.prod (.int .i64) (.prod (.int .i64) (.prod .bool .unit)))))), (.tmp 5, .own 3 (.int .i64)), (.tmp 6, .di), (.tmp 7, .own 3 (.int .i64)), (.tmp 8, .di), (.tmp 9, .di)]
abbrev sayAnswers_o0 : Outs := [(.ret, [(.tmp 4, .dat .bool)]), (.exit 0, [(.tmp 5, .own 3 (.int .i64)), (.tmp 6, .di), (.tmp 7, .own 3 (.int .i64)), (.tmp 8, .di)])]
def sayAnswers_s0 [Lk] : (List (Int × Int × Int × Unit) × Int × List (Int × Int × Int × Bool × Unit) × List Int × Int × List Int × Int × Int × Unit) → Option ((List (Int × Int × Int × Unit) × Int × List (Int × Int × Int × Bool × Unit) × List Int × Int × List Int × Int × Int × Unit) ⊕ (Bool × Unit) ⊕ (List Int × Int × List Int × Int × Unit) ⊕ Unit) := fun (a0, a1, a2, a3, a4, a5, a6, a7, _) =>
 match (ilt a7 (dlen a0)) with
 | true => match idx a0 a7 with
  | none => none
  | some x0 => match sanswer ((a1, (a2, ())), (x0.1, (x0.2.1, (x0.2.2.1, ()))), ()) with
   | none => none
   | some (y1, y2, _) => match idx a0 a7 with
    | none => none
    | some x3 => match answer27 ((a1, (a2, ())), (x3.1, (x3.2.1, (x3.2.2.1, ()))), ()) with
     | none => none
     | some (y4, y5, _) => match (!(ieq y1 y4)) with
      | true => some (.inr (.inl (false, ())))
      | false => match (!(ieq y2 y5)) with
       | true => some (.inr (.inl (false, ())))
       | false => some (.inl (a0, a1, a2, a3, a4, a5, a6, (IntKind.wrap .i64 (a7 + 1)), ()))
 | false => some (.inr (.inr (.inl (a3, a4, a5, a6, ()))))
def sayAnswers_d [Lk] : ((Int × (List (Int × Int × Int × Bool × Unit)) × Unit) × List (Int × Int × Int × Unit) × Unit) → Option ((Bool × Unit)) := fun (a0, a1, _) =>
 match alive27 () with
 | none => none
 | some (y0, _) => match (!y0) with
  | true => some (false, ())
  | false => match great27 ((a0.1, (a0.2.1, ())), ()) with
   | none => none
   | some (y1, _) => match y1 with
    | true => some (true, ())
    | false => match (ilt 20 (dlen a1)) with
     | true => some (true, ())
     | false => match sanswers ((a0.1, (a0.2.1, ())), a1, ()) with
      | none => none
      | some (y2, y3, _) => match answers27 ((a0.1, (a0.2.1, ())), a1, ()) with
       | none => none
       | some (y4, y5, _) => match iterL sayAnswers_s0 many (a1, a0.1, a0.2.1, y2, y3, y4, y5, 0, ()) with
        | none => none
        | some r => match r with
         | .inl (o6, _) => some (o6, ())
         | .inr r => match r with
          | .inl (o7, o8, o9, o10, _) => match ints01 (o7, o9, ()) with
           | none => none
           | some (y11, _) => match y11 with
            | true => some ((ieq o8 o10), ())
            | false => some (false, ())
          | .inr _ => none
def sayAnswers [Lk] := fun v => Lk.f (sayAnswers_d v)
theorem sayAnswers_eq v : sayAnswers v = sayAnswers_d v := lock_eq _
-- archipelago/archipelagolaw27.SayBytes
abbrev sayBytes_i : Items := [(.tmp 0, .dat (.prod (.int .i64) (.prod (.int .i64) (.prod (.slice (.int .i64)) .unit)))), (.tmp 1, .dat (.prod (.int .i64) (.prod (.int .i64) (.prod (.slice (.int .i64)) .unit)))), (.tmp 2, .dat (.slice (.int .u8)))]
abbrev sayBytes_o : Items := [(.tmp 0, .dat .bool)]
abbrev sayBytes_r : List RS := [.one]
def sayBytes_d [Lk] : ((Int × Int × (List Int) × Unit) × (Int × Int × (List Int) × Unit) × List Int × Unit) → Option ((Bool × Unit)) := fun (a0, a1, a2, _) =>
 match alive27 () with
 | none => none
 | some (y0, _) => match (!y0) with
  | true => some (false, ())
  | false => match (ilt 200 (dlen a0.2.2.1)) with
   | true => some (true, ())
   | false => match (ilt 200 (dlen a1.2.2.1)) with
    | true => some (true, ())
    | false => match (ilt 1000 (dlen a2)) with
     | true => some (true, ())
     | false => match sencode ((a0.1, (a0.2.1, (a0.2.2.1, ()))), ()) with
      | none => none
      | some (y1, y2, _) => match encode27 ((a0.1, (a0.2.1, (a0.2.2.1, ()))), ()) with
       | none => none
       | some (y3, y4, _) => match sdecode (a2, ()) with
        | none => none
        | some (y5, y6, y7, y8, y9, _) => match decode27 (a2, ()) with
         | none => none
         | some (y10, y11, y12, y13, y14, _) => match (!(seq? (dbytes y1) (dbytes y3))) with
          | true => some (false, ())
          | false => match (!(ieq y2 y4)) with
           | true => some (false, ())
           | false => match same27 ((y5, (y6, (y7, ()))), (y10, (y11, (y12, ()))), ()) with
            | none => none
            | some (y15, _) => match (!y15) with
             | true => some (false, ())
             | false => match (!(ieq y8 y13)) with
              | true => some (false, ())
              | false => match (!(ieq y9 y14)) with
               | true => some (false, ())
               | false => match ssame ((a0.1, (a0.2.1, (a0.2.2.1, ()))), (a1.1, (a1.2.1, (a1.2.2.1, ()))), ()) with
                | none => none
                | some (y16, _) => match same27 ((a0.1, (a0.2.1, (a0.2.2.1, ()))), (a1.1, (a1.2.1, (a1.2.2.1, ()))), ()) with
                 | none => none
                 | some (y17, _) => match (!(y16 == y17)) with
                  | true => some (false, ())
                  | false => match (ieq y2 0) with
                   | true => match (fits ((dlen ([] : List (Int))) + (dlen y1))) with
                    | true => match (fits ((dlen (dapp ([] : List (Int)) y1)) + (dlen a2))) with
                     | true => match sdecode ((dapp (dapp ([] : List (Int)) y1) a2), ()) with
                      | none => none
                      | some (y18, y19, y20, y21, y22, _) => match (!(ieq y22 0)) with
                       | true => some (false, ())
                       | false => match (!(ieq y21 (dlen y1))) with
                        | true => some (false, ())
                        | false => match same27 ((y18, (y19, (y20, ()))), (a0.1, (a0.2.1, (a0.2.2.1, ()))), ()) with
                         | none => none
                         | some (y23, _) => match (!y23) with
                          | true => some (false, ())
                          | false => match (!(ieq y9 0)) with
                           | true => some ((ieq y8 (dlen a2)), ())
                           | false => match sencode ((y5, (y6, (y7, ()))), ()) with
                            | none => none
                            | some (y24, y25, _) => match (ieq y25 0) with
                             | true => match (ile y8 (dlen a2)) with
                              | true => match subl a2 0 y8 with
                               | none => none
                               | some x26 => some ((seq? (dbytes y24) (dbytes x26)), ())
                              | false => some (false, ())
                             | false => some (false, ())
                     | false => none
                    | false => none
                   | false => match (!(ieq y9 0)) with
                    | true => some ((ieq y8 (dlen a2)), ())
                    | false => match sencode ((y5, (y6, (y7, ()))), ()) with
                     | none => none
                     | some (y27, y28, _) => match (ieq y28 0) with
                      | true => match (ile y8 (dlen a2)) with
                       | true => match subl a2 0 y8 with
                        | none => none
                        | some x29 => some ((seq? (dbytes y27) (dbytes x29)), ())
                       | false => some (false, ())
                      | false => some (false, ())
def sayBytes [Lk] := fun v => Lk.f (sayBytes_d v)
theorem sayBytes_eq v : sayBytes v = sayBytes_d v := lock_eq _
-- archipelago/archipelagolaw27.SayClasses
abbrev sayClasses_i : Items := [(.tmp 0, .dat (.prod (.int .i64) (.prod (.slice (.prod (.int .i64) (.prod (.int .i64) (.prod (.int .i64) (.prod .bool .unit))))) .unit))), (.tmp 1, .dat (.arr 2 (.int .u8)))]
abbrev sayClasses_o : Items := [(.tmp 0, .dat .bool)]
abbrev sayClasses_r : List RS := [.one]
abbrev sayClasses_i0 : Items := [(.tmp 2, .box 2), (.cell 0 0, .di), (.cell 0 1, .dat (.slice (.prod (.int .i64) (.prod (.int .i64) (.prod (.int .i64) (.prod .bool .unit)))))), (.tmp 13, .di), (.tmp 15, .di), (.tmp 16, .di), (.tmp 17, .di)]
abbrev sayClasses_o0 : Outs := [(.ret, [(.tmp 4, .dat .bool)]), (.exit 0, [(.tmp 2, .box 2), (.cell 0 0, .di), (.cell 0 1, .dat (.slice (.prod (.int .i64) (.prod (.int .i64) (.prod (.int .i64) (.prod .bool .unit)))))), (.tmp 13, .di), (.tmp 15, .di), (.tmp 16, .di)])]
def sayClasses_s0 [Lk] : (Int × List (Int × Int × Int × Bool × Unit) × Int × Int × Int × Int × Unit) → Option ((Int × List (Int × Int × Int × Bool × Unit) × Int × Int × Int × Int × Unit) ⊕ (Bool × Unit) ⊕ (Int × List (Int × Int × Int × Bool × Unit) × Int × Int × Int × Unit) ⊕ Unit) := fun (a0, a1, a2, a3, a4, a5, _) =>
 match (ilt a5 a0) with
 | true => match sanswer ((a0, (a1, ())), (2, (a5, (0, ()))), ()) with
  | none => none
  | some (y0, y1, _) => match sanswer ((a0, (a1, ())), (3, (a5, (0, ()))), ()) with
   | none => none
   | some (y2, y3, _) => match (!(ieq y1 0)) with
    | true => some (.inr (.inl (false, ())))
    | false => match (!(ieq y3 0)) with
     | true => some (.inr (.inl (false, ())))
     | false => match (ilt y2 1) with
      | true => some (.inr (.inl (false, ())))
      | false => match (ieq y0 a5) with
       | true => some (.inl (a0, a1, a2, (IntKind.wrap .i64 (a3 + 1)), (IntKind.wrap .i64 (a4 + y2)), (IntKind.wrap .i64 (a5 + 1)), ()))
       | false => some (.inl (a0, a1, a2, a3, a4, (IntKind.wrap .i64 (a5 + 1)), ()))
 | false => some (.inr (.inr (.inl (a0, a1, a2, a3, a4, ()))))
def sayClasses_d [Lk] : ((Int × (List (Int × Int × Int × Bool × Unit)) × Unit) × List Int × Unit) → Option ((Bool × Unit)) := fun (a0, a1, _) =>
 match alive27 () with
 | none => none
 | some (y0, _) => match (!y0) with
  | true => some (false, ())
  | false => match great27 ((a0.1, (a0.2.1, ())), ()) with
   | none => none
   | some (y1, _) => match y1 with
    | true => some (true, ())
    | false => match right21 ((a0.1, (a0.2.1, ())), ()) with
     | none => none
     | some (y2, _) => match (!y2) with
      | true => some (true, ())
      | false => match rem? (IntKind.wrap .i64 (dget a1 0 0)) a0.1 with
       | none => none
       | some x3 => match rem? (IntKind.wrap .i64 (dget a1 1 0)) a0.1 with
        | none => none
        | some x4 => match sanswer ((a0.1, (a0.2.1, ())), (1, (x3, (x4, ()))), ()) with
         | none => none
         | some (y5, y6, _) => match sanswer ((a0.1, (a0.2.1, ())), (2, (x3, (0, ()))), ()) with
          | none => none
          | some (y7, y8, _) => match sanswer ((a0.1, (a0.2.1, ())), (2, (x4, (0, ()))), ()) with
           | none => none
           | some (y9, y10, _) => match sanswer ((a0.1, (a0.2.1, ())), (4, ((-5 : Int), (99, ()))), ()) with
            | none => none
            | some (y11, y12, _) => match (!(ieq y6 0)) with
             | true => some (false, ())
             | false => match (!(ieq y8 0)) with
              | true => some (false, ())
              | false => match (!(ieq y10 0)) with
               | true => some (false, ())
               | false => match (!(ieq y12 0)) with
                | true => some (false, ())
                | false => match (!((ieq y5 1) == (ieq y7 y9))) with
                 | true => some (false, ())
                 | false => match (!(ieq y5 0)) with
                  | true => match (!(ieq y5 1)) with
                   | true => some (false, ())
                   | false => match (ilt x3 y7) with
                    | true => some (false, ())
                    | false => match iterL sayClasses_s0 many (a0.1, a0.2.1, y11, 0, 0, 0, ()) with
                     | none => none
                     | some r => match r with
                      | .inl (o13, _) => some (o13, ())
                      | .inr r => match r with
                       | .inl (o14, o15, o16, o17, o18, _) => match (ieq o17 o16) with
                        | true => some ((ieq o18 o14), ())
                        | false => some (false, ())
                       | .inr _ => none
                  | false => match (ilt x3 y7) with
                   | true => some (false, ())
                   | false => match iterL sayClasses_s0 many (a0.1, a0.2.1, y11, 0, 0, 0, ()) with
                    | none => none
                    | some r => match r with
                     | .inl (o19, _) => some (o19, ())
                     | .inr r => match r with
                      | .inl (o20, o21, o22, o23, o24, _) => match (ieq o23 o22) with
                       | true => some ((ieq o24 o20), ())
                       | false => some (false, ())
                      | .inr _ => none
def sayClasses [Lk] := fun v => Lk.f (sayClasses_d v)
theorem sayClasses_eq v : sayClasses v = sayClasses_d v := lock_eq _
end
end Go.Pev
end
section

end
section
namespace Go.Pev.Pl
theorem wrap_in {n : Int} (h : -9223372036854775808 ≤ n ∧ n ≤ 9223372036854775807) : IntKind.wrap .i64 n = n := IntWalk.i64_in n h
theorem iter_rule {σ ρ : Type} {step : σ → Option (σ ⊕ ρ)} (I : σ → Prop) (Q : ρ → Prop) (m : σ → Nat)
    (h : ∀ v, I v → (∃ v', step v = some (.inl v') ∧ I v' ∧ m v' < m v) ∨ (∃ r, step v = some (.inr r) ∧ Q r)) :
    ∀ n v, I v → m v < n → ∃ r, iterO step n v = some r ∧ Q r := by
  intro n
  induction n with
  | zero => intro v _ hn; omega
  | succ n ih =>
    intro v hv hn
    rcases h v hv with ⟨v', e, hi, hm⟩ | ⟨r, e, hq⟩
    · rw [iterO, e]
      exact ih v' hi (by omega)
    · rw [iterO, e]
      exact ⟨r, rfl, hq⟩
theorem iterL_rule {σ ρ : Type} {step : σ → Option (σ ⊕ ρ)} (I : σ → Prop) (Q : ρ → Prop) (m : σ → Nat)
    (h : ∀ v, I v → (∃ v', step v = some (.inl v') ∧ I v' ∧ m v' < m v) ∨ (∃ r, step v = some (.inr r) ∧ Q r))
    (v : σ) (hi : I v) (hm : m v < many) : ∃ r, iterL step many v = some r ∧ Q r := by
  rw [iterL_eq]
  exact iter_rule I Q m h many v hi hm
section
set_option linter.unusedSectionVars false
variable {α : Type} [Inhabited α]
theorem idx_at {d : Array α} {n : Nat} (h : n < d.size) : idx d.toList (n : Int) = some d[n]! := by
  rw [idx_eq, idxR, if_neg (by omega)]
  simp [h]
theorem dget_at {d : Array α} {n : Nat} {z : α} (h : n < d.size) : dget d.toList (dnat (n : Int)) z = d[n]! := by
  simp [dget, dnat, h]
theorem dset_at {d : Array α} {n : Nat} {x : α} : dset d.toList (dnat (n : Int)) x = (d.setIfInBounds n x).toList := by
  simp [dset, dnat]
theorem dlen_at {d : Array α} : dlen d.toList = (d.size : Int) := by simp [dlen]
theorem swp_fold (d : Array α) (i j : Nat) : (d.setIfInBounds i d[j]!).setIfInBounds j d[i]! = Go.Sort.swp d i j := rfl
theorem size_swp (d : Array α) (i j : Nat) : (Go.Sort.swp d i j).size = d.size := by simp [Go.Sort.swp]
end
theorem ilt_nat (a b : Nat) : ilt (a : Int) (b : Int) = decide (a < b) := by rw [ilt_eq]; simp
theorem ile_nat (a b : Nat) : ile (a : Int) (b : Int) = decide (a ≤ b) := by rw [ile_eq]; simp
theorem ieq_nat (a b : Nat) : ieq (a : Int) (b : Int) = decide (a = b) := by
  rw [ieq_eq]
  by_cases h : a = b
  · simp [h]
  · simp [h]; omega
section
theorem wrap_add {a b : Nat} (h : a + b < 9223372036854775808) : IntKind.wrap .i64 ((a : Int) + (b : Int)) = ((a + b : Nat) : Int) := by rw [wrap_in (by omega)]; omega
theorem wrap_add1 {a : Nat} (h : a + 1 < 9223372036854775808) : IntKind.wrap .i64 ((a : Int) + 1) = ((a + 1 : Nat) : Int) := by rw [wrap_in (by omega)]; omega
theorem wrap_2mul {a : Nat} (h : 2 * a < 9223372036854775808) : IntKind.wrap .i64 ((2 : Int) * (a : Int)) = ((2 * a : Nat) : Int) := by rw [wrap_in (by omega)]; omega
theorem wrap_mul1 {a : Nat} (h : a < 9223372036854775808) : IntKind.wrap .i64 ((a : Int) * 1) = ((a * 1 : Nat) : Int) := by rw [wrap_in (by omega)]; omega
theorem wrap_mul2 {a : Nat} (h : a * 2 < 9223372036854775808) : IntKind.wrap .i64 ((a : Int) * 2) = ((a * 2 : Nat) : Int) := by rw [wrap_in (by omega)]; omega
theorem wrap_mul3 {a : Nat} (h : a * 3 < 9223372036854775808) : IntKind.wrap .i64 ((a : Int) * 3) = ((a * 3 : Nat) : Int) := by rw [wrap_in (by omega)]; omega
theorem wrap_sub {a b : Nat} (h : b ≤ a ∧ a < 9223372036854775808) : IntKind.wrap .i64 ((a : Int) - (b : Int)) = ((a - b : Nat) : Int) := by rw [wrap_in (by omega)]; omega
theorem wrap_sub1 {a : Nat} (h : 1 ≤ a ∧ a < 9223372036854775808) : IntKind.wrap .i64 ((a : Int) - 1) = ((a - 1 : Nat) : Int) := by rw [wrap_in (by omega)]; omega
theorem quo_2 {a : Nat} (h : a < 9223372036854775808) : quo? .i64 (a : Int) 2 = some ((a / 2 : Nat) : Int) := by
  rw [quo_eq, quoR, if_neg (by omega), Int.tdiv_eq_ediv_of_nonneg (by omega), wrap_in (by omega)]; rfl
theorem quo_4 {a : Nat} (h : a < 9223372036854775808) : quo? .i64 (a : Int) 4 = some ((a / 4 : Nat) : Int) := by
  rw [quo_eq, quoR, if_neg (by omega), Int.tdiv_eq_ediv_of_nonneg (by omega), wrap_in (by omega)]; rfl
theorem quo_8 {a : Nat} (h : a < 9223372036854775808) : quo? .i64 (a : Int) 8 = some ((a / 8 : Nat) : Int) := by
  rw [quo_eq, quoR, if_neg (by omega), Int.tdiv_eq_ediv_of_nonneg (by omega), wrap_in (by omega)]; rfl
end
end Go.Pev.Pl
end
section
namespace Go.Pev.Pl
section
variable {α : Type}
theorem idx_l {xs : List α} {n : Nat} (z : α) (h : n < xs.length) : idx xs (n : Int) = some (xs.getD n z) := by
  rw [idx_eq, idxR, if_neg (by omega)]
  simp [h]
theorem idx_get (xs : List α) (n : Nat) : idx xs (n : Int) = xs[n]? := by
  rw [idx_eq, idxR, if_neg (by omega)]
  simp
theorem idx_zero (xs : List α) : idx xs (0 : Int) = xs.head? := by
  rw [idx_eq, idxR, if_neg (by omega)]
  cases xs <;> rfl
theorem dget_l (xs : List α) (n : Nat) (z : α) : dget xs (dnat (n : Int)) z = xs.getD n z := by simp [dget, dnat]
theorem dset_l (xs : List α) (n : Nat) (x : α) : dset xs (dnat (n : Int)) x = xs.set n x := by simp [dset, dnat]
theorem dlen_l (xs : List α) : dlen xs = (xs.length : Int) := rfl
theorem dnat_l (n : Nat) : dnat (n : Int) = n := by simp [dnat]
theorem dapp_l (xs ys : List α) : dapp xs ys = xs ++ ys := rfl
theorem subl_l {xs : List α} {l h : Nat} (h1 : l ≤ h) (h2 : h ≤ xs.length) : subl xs (l : Int) (h : Int) = some ((xs.take h).drop l) := by
  rw [subl_eq, sublR, if_pos (by omega)]
  simp
end
theorem fits_l {n : Int} (h : n ≤ 4294967296) : fits n = true := (fits_iff n).2 h
theorem ieq_dlen {α β : Type} (xs : List α) (ys : List β) : ieq (dlen xs) (dlen ys) = decide (xs.length = ys.length) := by rw [dlen_l, dlen_l, ieq_nat]
theorem ieq_dec (a b : Int) : ieq a b = decide (a = b) := by
  rw [ieq_eq]
  by_cases h : a = b <;> simp [h]
def walk {α β ρ : Type} (f : β → α → α ⊕ ρ) (fin : α → ρ) : List β → α → ρ
  | [], a => fin a
  | x :: xs, a => match f x a with
    | .inl a => walk f fin xs a
    | .inr r => r
theorem walk_rule {σ ρ α β : Type} {step : σ → Option (σ ⊕ ρ)} (st : Nat → α → σ) (xs : List β) (f : β → α → α ⊕ ρ) (fin : α → ρ) (I : Nat → α → Prop)
    (h : ∀ i x a, i < xs.length → xs[i]? = some x → I i a → (∀ a', f x a = .inl a' → step (st i a) = some (.inl (st (i + 1) a')) ∧ I (i + 1) a') ∧ (∀ r, f x a = .inr r → step (st i a) = some (.inr r)))
    (hN : ∀ a, I xs.length a → step (st xs.length a) = some (.inr (fin a))) :
    ∀ (m i n : Nat) (a : α), xs.length - i = m → i ≤ xs.length → m < n → I i a → iterO step n (st i a) = some (walk f fin (xs.drop i) a) := by
  intro m
  induction m with
  | zero =>
    intro i n a hk hi hn hI
    obtain ⟨n, rfl⟩ : ∃ k, n = k + 1 := ⟨n - 1, by omega⟩
    have e : i = xs.length := by omega
    subst e
    rw [iterO, hN a hI, List.drop_length]
    rfl
  | succ m ih =>
    intro i n a hk hi hn hI
    obtain ⟨n, rfl⟩ : ∃ k, n = k + 1 := ⟨n - 1, by omega⟩
    have hi' : i < xs.length := by omega
    obtain ⟨g1, g2⟩ := h i xs[i] a hi' (by simp [hi']) hI
    rw [List.drop_eq_getElem_cons hi', walk, iterO]
    cases hf : f xs[i] a with
    | inl a' =>
      obtain ⟨e, hI'⟩ := g1 a' hf
      rw [e]
      exact ih (i + 1) n a' (by omega) (by omega) (by omega) hI'
    | inr r => rw [g2 r hf]
theorem walkL {σ ρ α β : Type} {step : σ → Option (σ ⊕ ρ)} (st : Nat → α → σ) (xs : List β) (f : β → α → α ⊕ ρ) (fin : α → ρ) (I : Nat → α → Prop) (hs : xs.length < 9223372036854775808)
    (h : ∀ i x a, i < xs.length → xs[i]? = some x → I i a → (∀ a', f x a = .inl a' → step (st i a) = some (.inl (st (i + 1) a')) ∧ I (i + 1) a') ∧ (∀ r, f x a = .inr r → step (st i a) = some (.inr r)))
    (hN : ∀ a, I xs.length a → step (st xs.length a) = some (.inr (fin a))) (a : α) (h0 : I 0 a) : iterL step many (st 0 a) = some (walk f fin xs a) := by
  have hm : 9223372036854775808 < many := by simp only [many]; omega
  rw [iterL_eq, walk_rule st xs f fin I h hN xs.length 0 many a (by omega) (by omega) (by omega) h0]
  rfl
theorem eq_of_places {α : Type} {xs ys : List α} (z : α) (hl : xs.length = ys.length) (h : ∀ j, j < xs.length → xs.getD j z = ys.getD j z) : xs = ys := by
  apply List.ext_getElem hl
  intro i h1 h2
  have := h i h1
  simpa [h1, h2] using this
theorem scan_rule {σ ρ : Type} {step : σ → Option (σ ⊕ ρ)} (st : Nat → σ) (N : Nat) (P : Nat → Bool) (rt : Nat → ρ) (rf : ρ)
    (h : ∀ i, i < N → step (st i) = if P i then some (.inr (rt i)) else some (.inl (st (i + 1)))) (hN : step (st N) = some (.inr rf)) :
    ∀ (m i n : Nat), N - i = m → i ≤ N → m < n → (∃ k, i ≤ k ∧ k < N ∧ P k = true ∧ (∀ j, i ≤ j → j < k → P j = false) ∧ iterO step n (st i) = some (rt k)) ∨ ((∀ j, i ≤ j → j < N → P j = false) ∧ iterO step n (st i) = some rf) := by
  intro m
  induction m with
  | zero =>
    intro i n hk hi hn
    obtain ⟨n, rfl⟩ : ∃ k, n = k + 1 := ⟨n - 1, by omega⟩
    have e : i = N := by omega
    subst e
    exact .inr ⟨fun j h1 h2 => by omega, by rw [iterO, hN]⟩
  | succ m ih =>
    intro i n hk hi hn
    obtain ⟨n, rfl⟩ : ∃ k, n = k + 1 := ⟨n - 1, by omega⟩
    have hi' : i < N := by omega
    cases hP : P i
    · have e : iterO step (n + 1) (st i) = iterO step n (st (i + 1)) := by rw [iterO, h i hi', hP]; rfl
      rw [e]
      rcases ih (i + 1) n (by omega) (by omega) (by omega) with ⟨k, h1, h2, h3, h4, h5⟩ | ⟨h1, h2⟩
      · refine .inl ⟨k, by omega, h2, h3, fun j a1 a2 => ?_, h5⟩
        by_cases ej : j = i
        · subst ej; exact hP
        · exact h4 j (by omega) a2
      · refine .inr ⟨fun j a1 a2 => ?_, h2⟩
        by_cases ej : j = i
        · subst ej; exact hP
        · exact h1 j (by omega) a2
    · exact .inl ⟨i, Nat.le_refl _, hi', hP, fun j a1 a2 => by omega, by rw [iterO, h i hi', hP]; rfl⟩
theorem scanL {σ ρ : Type} {step : σ → Option (σ ⊕ ρ)} (st : Nat → σ) (N : Nat) (P : Nat → Bool) (rt : Nat → ρ) (rf : ρ) (hs : N < 9223372036854775808)
    (h : ∀ i, i < N → step (st i) = if P i then some (.inr (rt i)) else some (.inl (st (i + 1)))) (hN : step (st N) = some (.inr rf)) :
    (∃ k, k < N ∧ P k = true ∧ (∀ j, j < k → P j = false) ∧ iterL step many (st 0) = some (rt k)) ∨ ((∀ j, j < N → P j = false) ∧ iterL step many (st 0) = some rf) := by
  have hm : 9223372036854775808 < many := by simp only [many]; omega
  rw [iterL_eq]
  rcases scan_rule st N P rt rf h hN N 0 many rfl (by omega) (by omega) with ⟨k, h1, h2, h3, h4, h5⟩ | ⟨h1, h2⟩
  · exact .inl ⟨k, h2, h3, fun j a => h4 j (by omega) a, h5⟩
  · exact .inr ⟨fun j a => h1 j (by omega) a, h2⟩
end Go.Pev.Pl
end
section
namespace Go.Pev.Pl
inductive Tok where
  | ver (v : Int)
  | arc (u v : Int)
  deriving DecidableEq
namespace Tok
def st : Tok → Int
  | .ver v => v
  | .arc _ v => v
def step (s : List Int × List Int) : Tok → Option (List Int × List Int)
  | .ver v => match s.1 with
    | w :: _ => if w = v then some s else none
    | [] => none
  | .arc u v => match s.1 with
    | w :: r => if w = u then match r with
        | p :: r' => if p = v then some (p :: r', s.2) else if v ∈ s.2 then none else some (v :: w :: r, v :: s.2)
        | [] => if v ∈ s.2 then none else some (v :: w :: r, v :: s.2)
      else none
    | [] => none
def run : List Int × List Int → List Tok → Option (List Int × List Int)
  | s, [] => some s
  | s, t :: l => match step s t with
    | some s => run s l
    | none => none
theorem run_append (s : List Int × List Int) (a b : List Tok) : run s (a ++ b) = (run s a).bind fun s => run s b := by
  induction a generalizing s with
  | nil => rfl
  | cons t a ih =>
    simp only [List.cons_append, run]
    cases step s t with
    | none => rfl
    | some s => exact ih s
theorem step_cases {s s' : List Int × List Int} {t : Tok} (h : step s t = some s') :
    (∃ v r, t = .ver v ∧ s.1 = v :: r ∧ s' = s) ∨
    (∃ u v r, t = .arc u v ∧ s.1 = u :: v :: r ∧ s' = (v :: r, s.2)) ∨
    (∃ u v r, t = .arc u v ∧ s.1 = u :: r ∧ r.head? ≠ some v ∧ v ∉ s.2 ∧ s' = (v :: u :: r, v :: s.2)) := by
  obtain ⟨way, c⟩ := s
  cases t with
  | ver v =>
    cases way with
    | nil => simp [step] at h
    | cons w r =>
      simp only [step] at h
      split at h
      · rename_i e; cases h; exact .inl ⟨v, r, rfl, by simp [e], rfl⟩
      · cases h
  | arc u v =>
    cases way with
    | nil => simp [step] at h
    | cons w r =>
      simp only [step] at h
      split at h
      · rename_i e
        subst e
        cases r with
        | nil =>
          simp only at h
          split at h
          · cases h
          · rename_i hc; cases h; exact .inr (.inr ⟨w, v, [], rfl, rfl, by simp, hc, rfl⟩)
        | cons p r =>
          simp only at h
          split at h
          · rename_i e; subst e; cases h; exact .inr (.inl ⟨w, p, r, rfl, rfl, rfl⟩)
          · split at h
            · cases h
            · rename_i e hc; cases h; exact .inr (.inr ⟨w, v, p :: r, rfl, rfl, by simpa using e, hc, rfl⟩)
      · cases h
theorem step_ver (v : Int) (r c : List Int) : step (v :: r, c) (.ver v) = some (v :: r, c) := by simp [step]
theorem step_pop (u v : Int) (r c : List Int) : step (u :: v :: r, c) (.arc u v) = some (v :: r, c) := by simp [step]
theorem step_push (u v : Int) (r c : List Int) (h1 : r.head? ≠ some v) (h2 : v ∉ c) : step (u :: r, c) (.arc u v) = some (v :: u :: r, v :: c) := by
  cases r with
  | nil => simp [step, h2]
  | cons p r =>
    have : p ≠ v := by simpa using h1
    simp [step, h2, this]
def Inv (s : List Int × List Int) : Prop := s.1.Nodup ∧ (∀ x ∈ s.1, x ∈ s.2)
theorem step_inv {s s' : List Int × List Int} {t : Tok} (h : step s t = some s') (hi : Inv s) : Inv s' ∧ (∀ x ∈ s.2, x ∈ s'.2) ∧ s'.1.head? = some t.st := by
  obtain ⟨way, c⟩ := s
  obtain ⟨h1, h2⟩ := hi
  rcases step_cases h with ⟨v, r, rfl, hw, rfl⟩ | ⟨u, v, r, rfl, hw, rfl⟩ | ⟨u, v, r, rfl, hw, _, hn, rfl⟩
  · exact ⟨⟨h1, h2⟩, fun x hx => hx, by rw [hw]; rfl⟩
  · simp only at hw h1 h2
    subst hw
    refine ⟨⟨?_, ?_⟩, fun x hx => hx, rfl⟩
    · exact (List.nodup_cons.1 h1).2
    · intro x hx; exact h2 x (by simp only at hx; simp [List.mem_cons.1 hx])
  · simp only at hw h1 h2 hn
    subst hw
    refine ⟨⟨?_, ?_⟩, fun x hx => by simp [hx], rfl⟩
    · exact List.nodup_cons.2 ⟨fun hm => hn (h2 _ hm), h1⟩
    · intro x hx
      rcases List.mem_cons.1 hx with rfl | hx
      · simp
      · exact List.mem_cons_of_mem _ (h2 x hx)
theorem run_inv {l : List Tok} : ∀ {s s' : List Int × List Int}, run s l = some s' → Inv s → Inv s' ∧ (∀ x ∈ s.2, x ∈ s'.2) ∧ ∀ t, l.getLast? = some t → s'.1.head? = some t.st := by
  induction l with
  | nil => intro s s' h hi; cases h; exact ⟨hi, fun x hx => hx, fun t ht => by simp at ht⟩
  | cons t l ih =>
    intro s s' h hi
    simp only [run] at h
    split at h
    · rename_i s1 h1
      obtain ⟨q1, q2, q3⟩ := step_inv h1 hi
      obtain ⟨p1, p2, p3⟩ := ih h q1
      refine ⟨p1, fun x hx => p2 x (q2 x hx), fun t' ht' => ?_⟩
      cases l with
      | nil => simp at ht'; subst ht'; simp only [run] at h; cases h; exact q3
      | cons y l => exact p3 t' (by rw [List.getLast?_cons_cons] at ht'; exact ht')
    · cases h
theorem run_frame {Z : Int → Prop} : ∀ {l : List Tok} {way way' c d c2 low : List Int}, run (way, c) l = some (way', d) → way ≠ [] → (∀ x, x ∈ c2 ↔ x ∈ c ∨ Z x) →
    (∀ u v, .arc u v ∈ l → ¬ Z v) → (∀ y ∈ low, Z y) → ∃ d2, run (way ++ low, c2) l = some (way' ++ low, d2) ∧ (∀ x, x ∈ d2 ↔ x ∈ d ∨ Z x) := by
  intro l
  induction l with
  | nil => intro way way' c d c2 low h _ hc _ _; cases h; exact ⟨c2, rfl, hc⟩
  | cons t l ih =>
    intro way way' c d c2 low h hne hc hz hl
    simp only [run] at h
    split at h
    · rename_i s1 h1
      have hz' : ∀ u v, Tok.arc u v ∈ l → ¬ Z v := fun u v hm => hz u v (List.mem_cons_of_mem _ hm)
      rcases step_cases h1 with ⟨v, r, rfl, hw, rfl⟩ | ⟨u, v, r, rfl, hw, rfl⟩ | ⟨u, v, r, rfl, hw, hh, hn, rfl⟩
      · simp only at hw
        subst hw
        obtain ⟨d2, e1, e2⟩ := ih h hne hc hz' hl
        exact ⟨d2, by simp only [run, List.cons_append, step_ver]; exact e1, e2⟩
      · simp only at hw
        subst hw
        obtain ⟨d2, e1, e2⟩ := ih h (by simp) hc hz' hl
        exact ⟨d2, by simp only [run, List.cons_append, step_pop]; exact e1, e2⟩
      · simp only at hw hn
        subst hw
        have hzv := hz u v (by simp)
        have hn2 : v ∉ c2 := by rw [hc]; rintro (h | h); exact hn h; exact hzv h
        have hh2 : (r ++ low).head? ≠ some v := by
          cases r with
          | nil =>
            cases low with
            | nil => simp
            | cons y low =>
              simp only [List.nil_append, List.head?_cons, ne_eq, Option.some.injEq]
              rintro rfl
              exact hzv (hl _ (by simp))
          | cons p r => simpa using hh
        obtain ⟨d2, e1, e2⟩ := ih (c2 := v :: c2) h (by simp) (by intro x; simp only [List.mem_cons, hc, or_assoc]) hz' hl
        exact ⟨d2, by simp only [run, List.cons_append, step_push _ _ _ _ hh2 hn2]; exact e1, e2⟩
    · cases h
theorem run_less {z : Int} : ∀ {l : List Tok} {way way' c2 d2 c : List Int}, run (way, c2) l = some (way', d2) → z ∉ way → (∀ x, x ∈ c2 ↔ x ∈ c ∨ x = z) → z ∉ c →
    .ver z ∉ l ∧ ∃ d, run (way, c) l = some (way', d) ∧ (∀ x, x ∈ d2 ↔ x ∈ d ∨ x = z) ∧ z ∉ d := by
  intro l
  induction l with
  | nil => intro way way' c2 d2 c h _ hc hz; cases h; exact ⟨by simp, c, rfl, hc, hz⟩
  | cons t l ih =>
    intro way way' c2 d2 c h hzw hc hz
    simp only [run] at h
    split at h
    · rename_i s1 h1
      rcases step_cases h1 with ⟨v, r, rfl, hw, rfl⟩ | ⟨u, v, r, rfl, hw, rfl⟩ | ⟨u, v, r, rfl, hw, hh, hn, rfl⟩
      · simp only at hw
        subst hw
        obtain ⟨e0, d, e1, e2, e3⟩ := ih h hzw hc hz
        refine ⟨?_, d, by simp only [run, step_ver]; exact e1, e2, e3⟩
        rintro hm
        rcases List.mem_cons.1 hm with hm | hm
        · cases hm; exact hzw (by simp)
        · exact e0 hm
      · simp only at hw
        subst hw
        obtain ⟨e0, d, e1, e2, e3⟩ := ih h (fun hm => hzw (List.mem_cons_of_mem _ hm)) hc hz
        refine ⟨?_, d, by simp only [run, step_pop]; exact e1, e2, e3⟩
        rintro hm
        rcases List.mem_cons.1 hm with hm | hm
        · cases hm
        · exact e0 hm
      · simp only at hw hn
        subst hw
        have hvz : v ≠ z := by rintro rfl; exact hn ((hc v).2 (.inr rfl))
        have hn' : v ∉ c := fun hm => hn ((hc v).2 (.inl hm))
        obtain ⟨e0, d, e1, e2, e3⟩ := ih (c := v :: c) h (by intro hm; rcases List.mem_cons.1 hm with hm | hm; exact hvz hm.symm; exact hzw hm)
          (by intro x; simp only [List.mem_cons, hc, or_assoc])
          (by intro hm; rcases List.mem_cons.1 hm with hm | hm; exact hvz hm.symm; exact hz hm)
        refine ⟨?_, d, by simp only [run, step_push _ _ _ _ hh hn']; exact e1, e2, e3⟩
        rintro hm
        rcases List.mem_cons.1 hm with hm | hm
        · cases hm
        · exact e0 hm
    · cases h
def Rot (a b : List Tok) : Prop := ∃ x y, a = x ++ y ∧ b = y ++ x
theorem Rot.refl (a : List Tok) : Rot a a := ⟨[], a, rfl, by simp⟩
theorem Rot.symm {a b : List Tok} (h : Rot a b) : Rot b a := by obtain ⟨x, y, h1, h2⟩ := h; exact ⟨y, x, h2, h1⟩
theorem Rot.trans {a b c : List Tok} (h : Rot a b) (g : Rot b c) : Rot a c := by
  obtain ⟨x, y, rfl, h2⟩ := h
  obtain ⟨z, w, h3, rfl⟩ := g
  rw [h2] at h3
  rcases List.append_eq_append_iff.1 h3 with ⟨k, h4, h5⟩ | ⟨k, h4, h5⟩
  · subst h4 h5
    exact ⟨k, w ++ y, by simp, by simp⟩
  · subst h4 h5
    exact ⟨x ++ z, k, by simp, by simp⟩
theorem Rot.perm {a b : List Tok} (h : Rot a b) : a.Perm b := by
  obtain ⟨x, y, rfl, rfl⟩ := h
  exact List.perm_append_comm
theorem Rot.mem {a b : List Tok} (h : Rot a b) (t : Tok) : t ∈ a ↔ t ∈ b := h.perm.mem_iff
theorem Rot.nodup {a b : List Tok} (h : Rot a b) : a.Nodup ↔ b.Nodup := h.perm.nodup_iff
theorem Rot.length {a b : List Tok} (h : Rot a b) : a.length = b.length := h.perm.length_eq
inductive T : List Tok → Prop
  | one (v : Int) : T [.ver v]
  | add (x : Tok) (l : List Tok) (v : Int) : T (x :: l) → x.st ≠ v → .ver v ∉ x :: l → T (x :: .arc x.st v :: .ver v :: .arc v x.st :: l)
  | rot (a b : List Tok) : T (a ++ b) → T (b ++ a)
theorem T.of_rot {a b : List Tok} (h : T a) (r : Rot a b) : T b := by obtain ⟨x, y, rfl, rfl⟩ := r; exact T.rot x y h
theorem T.facts {l : List Tok} (h : T l) : l ≠ [] ∧ (∀ t ∈ l, .ver t.st ∈ l) ∧ (∀ u v, .arc u v ∈ l → .ver u ∈ l ∧ .ver v ∈ l ∧ .arc v u ∈ l ∧ u ≠ v) := by
  induction h with
  | one v => exact ⟨by simp, by simp [st], by simp⟩
  | add x l v h hne hv ih =>
    obtain ⟨_, i2, i3⟩ := ih
    have hsub : ∀ t, t ∈ x :: l → t ∈ x :: Tok.arc x.st v :: .ver v :: .arc v x.st :: l := by
      intro t ht
      rcases List.mem_cons.1 ht with rfl | ht
      · simp
      · simp [ht]
    have hx := hsub _ (i2 x (by simp))
    have cases3 : ∀ t, t ∈ x :: Tok.arc x.st v :: .ver v :: .arc v x.st :: l → t ∈ x :: l ∨ t = .arc x.st v ∨ t = .ver v ∨ t = .arc v x.st := by
      intro t ht
      simp only [List.mem_cons] at ht ⊢
      rcases ht with h | h | h | h | h <;> simp [h]
    refine ⟨by simp, fun t ht => ?_, fun a b hab => ?_⟩
    · rcases cases3 t ht with h | rfl | rfl | rfl
      · exact hsub _ (i2 t h)
      · simp [st]
      · simp [st]
      · exact hx
    · rcases cases3 _ hab with h | h | h | h
      · obtain ⟨p1, p2, p3, p4⟩ := i3 a b h
        exact ⟨hsub _ p1, hsub _ p2, hsub _ p3, p4⟩
      · cases h; exact ⟨hx, by simp, by simp, hne⟩
      · cases h
      · cases h; exact ⟨by simp, hx, by simp, Ne.symm hne⟩
  | rot a b h ih =>
    obtain ⟨i1, i2, i3⟩ := ih
    have hm : ∀ t, t ∈ a ++ b ↔ t ∈ b ++ a := fun t => List.perm_append_comm.mem_iff
    refine ⟨by intro e; simp only [List.append_eq_nil_iff] at e; exact i1 (by simp [e.1, e.2]), fun t ht => (hm _).1 (i2 t ((hm _).2 ht)), fun u v huv => ?_⟩
    obtain ⟨p1, p2, p3, p4⟩ := i3 u v ((hm _).2 huv)
    exact ⟨(hm _).1 p1, (hm _).1 p2, (hm _).1 p3, p4⟩
theorem T.nodup {l : List Tok} (h : T l) : l.Nodup := by
  induction h with
  | one v => simp
  | add x l v h hne hv ih =>
    obtain ⟨_, _, f3⟩ := h.facts
    have h1 : Tok.arc x.st v ∉ x :: l := fun hm => hv (f3 _ _ hm).2.1
    have h2 : Tok.arc v x.st ∉ x :: l := fun hm => hv (f3 _ _ hm).1
    simp only [List.mem_cons, not_or] at h1 h2 hv
    have ih' := List.nodup_cons.1 ih
    simp only [List.nodup_cons, List.mem_cons, not_or]
    refine ⟨⟨fun e => h1.1 e.symm, fun e => hv.1 e.symm, fun e => h2.1 e.symm, ih'.1⟩, ⟨by simp, ?_, h1.2⟩, ⟨by simp, hv.2⟩, h2.2, ih'.2⟩
    intro e
    simp only [Tok.arc.injEq] at e
    exact hne e.1
  | rot a b h ih => exact (List.perm_append_comm.nodup_iff).1 ih
def C (l : List Tok) : Prop := ∀ r, Rot l r → ∀ t, r.getLast? = some t → ∃ c, run ([t.st], [t.st]) r = some ([t.st], c) ∧ ∀ x, x ∈ c ↔ .ver x ∈ l
end Tok
end Go.Pev.Pl
end
section
namespace Go.Pev.Pl.Tok
theorem getLast?_app {a b : List Tok} {t : Tok} (h : b.getLast? = some t) : (a ++ b).getLast? = some t := by
  rw [List.getLast?_append, h]; rfl
theorem run_cons (s : List Int × List Int) (t : Tok) (l : List Tok) : run s (t :: l) = (step s t).bind fun s => run s l := by
  rw [run]
  cases step s t <;> rfl
theorem Inv_one (v : Int) : Inv ([v], [v]) := ⟨by simp, by simp⟩
theorem T.toC {l : List Tok} (h : T l) : C l := by
  induction h with
  | one v =>
    intro r hr t ht
    have : r = [.ver v] := List.perm_singleton.1 hr.perm.symm
    subst this
    simp at ht
    subst ht
    exact ⟨[v], by simp [run, st, step], by simp⟩
  | rot a b h ih =>
    intro r hr t ht
    obtain ⟨c, h1, h2⟩ := ih r (Rot.trans ⟨a, b, rfl, rfl⟩ hr) t ht
    exact ⟨c, h1, fun x => (h2 x).trans (List.perm_append_comm.mem_iff)⟩
  | add x l v h hne hv ih =>
    obtain ⟨_, f2, f3⟩ := h.facts
    have hnz : ∀ u w, Tok.arc u w ∈ x :: l → ¬ (w = v) := fun u w hm e => hv (e ▸ (f3 u w hm).2.1)
    have fin : ∀ {d2 c : List Int}, (∀ y, y ∈ d2 ↔ y ∈ c ∨ y = v) → (∀ y, y ∈ c ↔ .ver y ∈ x :: l) → ∀ y, y ∈ d2 ↔ Tok.ver y ∈ x :: .arc x.st v :: .ver v :: .arc v x.st :: l := by
      intro d2 c e1 e2 y
      rw [e1, e2]
      simp only [List.mem_cons, reduceCtorEq, false_or, Tok.ver.injEq]
      constructor
      · rintro ((h | h) | h) <;> simp [h]
      · rintro (h | h | h) <;> simp [h]
    have triple : ∀ {w' c1 : List Int}, Inv (x.st :: w', c1) → v ∉ c1 → ∀ p, run (x.st :: w', c1) (.arc x.st v :: .ver v :: .arc v x.st :: p) = run (x.st :: w', v :: c1) p := by
      intro w' c1 hi hn p
      have hh : w'.head? ≠ some v := by
        intro e
        exact hn (hi.2 v (List.mem_cons_of_mem _ (List.mem_of_head? e)))
      rw [run_cons, step_push _ _ _ _ hh hn, Option.bind_some, run_cons, step_ver, Option.bind_some, run_cons, step_pop, Option.bind_some]
    have G : ∀ q1 p1, l = p1 ++ q1 → ∀ t, (q1 ++ x :: .arc x.st v :: .ver v :: .arc v x.st :: p1).getLast? = some t → ∃ c, run ([t.st], [t.st]) (q1 ++ x :: .arc x.st v :: .ver v :: .arc v x.st :: p1) = some ([t.st], c) ∧ ∀ y, y ∈ c ↔ .ver y ∈ x :: .arc x.st v :: .ver v :: .arc v x.st :: l := by
      intro q1 p1 hl t ht
      have hrot : Rot (x :: l) (q1 ++ x :: p1) := ⟨x :: p1, q1, by simp [hl], rfl⟩
      have ht0 : ∃ t0, (q1 ++ x :: p1).getLast? = some t0 ∧ t0.st = t.st := by
        cases p1 with
        | nil =>
          refine ⟨x, getLast?_app (by simp), ?_⟩
          rw [show q1 ++ [x, Tok.arc x.st v, .ver v, .arc v x.st] = (q1 ++ [x, Tok.arc x.st v, .ver v]) ++ [Tok.arc v x.st] by simp, List.getLast?_concat] at ht
          cases ht; rfl
        | cons y p1 =>
          refine ⟨t, ?_, rfl⟩
          rw [show q1 ++ x :: Tok.arc x.st v :: .ver v :: .arc v x.st :: y :: p1 = (q1 ++ [x, Tok.arc x.st v, .ver v, .arc v x.st]) ++ y :: p1 by simp, List.getLast?_append] at ht
          rw [show q1 ++ x :: y :: p1 = (q1 ++ [x]) ++ y :: p1 by simp, List.getLast?_append]
          exact ht
      obtain ⟨t0, e0, e1⟩ := ht0
      obtain ⟨c, h1, h2⟩ := ih _ hrot t0 e0
      rw [e1, show q1 ++ x :: p1 = (q1 ++ [x]) ++ p1 by simp, run_append, Option.bind_eq_some_iff] at h1
      obtain ⟨⟨w1, c1⟩, g1, g2⟩ := h1
      obtain ⟨i1, i2, i3⟩ := run_inv g1 (Inv_one _)
      obtain ⟨j1, j2, j3⟩ := run_inv g2 i1
      have i3' := i3 x (by simp)
      simp only at i3'
      cases w1 with
      | nil => simp at i3'
      | cons w0 w' =>
        simp at i3'
        subst i3'
        have hn : v ∉ c1 := fun hm => hv ((h2 v).1 (j2 v hm))
        obtain ⟨d2, k1, k2⟩ := run_frame (Z := (· = v)) (c2 := v :: c1) (low := []) g2 (by simp) (fun y => by simp [or_comm]) (fun u w hm => hnz u w (by simp [hl, hm])) (by simp)
        refine ⟨d2, ?_, fin k2 h2⟩
        rw [show q1 ++ x :: Tok.arc x.st v :: .ver v :: .arc v x.st :: p1 = (q1 ++ [x]) ++ Tok.arc x.st v :: .ver v :: .arc v x.st :: p1 by simp, run_append, g1, Option.bind_some, triple i1 hn]
        simpa using k1
    intro r hr t ht
    obtain ⟨p, q, hpq, rfl⟩ := hr
    have base : ∀ t0 : Tok, (l ++ [x]).getLast? = some t0 → t0 = x := fun t0 h => by rw [List.getLast?_concat] at h; exact (Option.some.inj h).symm
    obtain ⟨c, h1, h2⟩ := ih (l ++ [x]) ⟨[x], l, rfl, rfl⟩ x (by simp)
    match p with
    | [] =>
      simp only [List.nil_append] at hpq
      subst hpq
      have := G [] l (by simp) t (by simpa using ht)
      simpa using this
    | [y] =>
      simp only [List.cons_append, List.nil_append, List.cons.injEq] at hpq
      obtain ⟨rfl, rfl⟩ := hpq
      have : t = x := by
        rw [List.getLast?_concat] at ht
        exact (Option.some.inj ht).symm
      subst this
      have hn : v ∉ [t.st] := by simp; exact Ne.symm hne
      obtain ⟨d2, k1, k2⟩ := run_frame (Z := (· = v)) (c2 := [v, t.st]) (low := []) h1 (by simp) (fun y => by simp [or_comm]) (fun u w hm => hnz u w (by simpa [or_comm] using hm)) (by simp)
      refine ⟨d2, ?_, fin k2 h2⟩
      rw [show (Tok.arc t.st v :: .ver v :: .arc v t.st :: l) ++ [t] = Tok.arc t.st v :: .ver v :: .arc v t.st :: (l ++ [t]) by simp, triple (Inv_one _) hn]
      simpa using k1
    | [y, z] =>
      simp only [List.cons_append, List.nil_append, List.cons.injEq] at hpq
      obtain ⟨rfl, rfl, rfl⟩ := hpq
      have : t = .arc x.st v := by
        rw [show (Tok.ver v :: .arc v x.st :: l) ++ [x, .arc x.st v] = (Tok.ver v :: .arc v x.st :: l ++ [x]) ++ [.arc x.st v] by simp, List.getLast?_concat] at ht
        exact (Option.some.inj ht).symm
      subst this
      obtain ⟨d2, k1, k2⟩ := run_frame (Z := (· = v)) (c2 := [x.st, v]) (low := [v]) h1 (by simp) (fun y => by simp) (fun u w hm => hnz u w (by simpa [or_comm] using hm)) (by simp)
      refine ⟨d2, ?_, fin k2 h2⟩
      rw [show (Tok.ver v :: .arc v x.st :: l) ++ [x, .arc x.st v] = Tok.ver v :: .arc v x.st :: ((l ++ [x]) ++ [.arc x.st v]) by simp]
      rw [run_cons]
      show (step ([v], [v]) _).bind _ = _
      rw [step_ver, Option.bind_some, run_cons, step_push _ _ _ _ (by simp) (by simp; exact hne), Option.bind_some, run_append]
      rw [show ([x.st] ++ [v] : List Int) = [x.st, v] from rfl] at k1
      rw [k1, Option.bind_some, run_cons, step_pop]
      rfl
    | [y, z, w] =>
      simp only [List.cons_append, List.nil_append, List.cons.injEq] at hpq
      obtain ⟨rfl, rfl, rfl, rfl⟩ := hpq
      have : t = .ver v := by
        rw [show (Tok.arc v x.st :: l) ++ [x, .arc x.st v, .ver v] = (Tok.arc v x.st :: l ++ [x, .arc x.st v]) ++ [.ver v] by simp, List.getLast?_concat] at ht
        exact (Option.some.inj ht).symm
      subst this
      obtain ⟨d2, k1, k2⟩ := run_frame (Z := (· = v)) (c2 := [x.st, v]) (low := [v]) h1 (by simp) (fun y => by simp) (fun u w hm => hnz u w (by simpa [or_comm] using hm)) (by simp)
      refine ⟨d2, ?_, fin k2 h2⟩
      rw [show (Tok.arc v x.st :: l) ++ [x, .arc x.st v, .ver v] = Tok.arc v x.st :: ((l ++ [x]) ++ [.arc x.st v, .ver v]) by simp]
      rw [run_cons]
      show (step ([v], [v]) _).bind _ = _
      rw [step_push _ _ _ _ (by simp) (by simp; exact hne), Option.bind_some, run_append]
      rw [show ([x.st] ++ [v] : List Int) = [x.st, v] from rfl] at k1
      rw [k1, Option.bind_some, run_cons, step_pop, Option.bind_some, run_cons, step_ver]
      rfl
    | y :: z :: w :: w2 :: p1 =>
      simp only [List.cons_append, List.cons.injEq] at hpq
      obtain ⟨rfl, rfl, rfl, rfl, rfl⟩ := hpq
      exact G q p1 rfl t ht
def comp (P : List Tok) : List Int → List Tok
  | [] => []
  | w :: r => (if .ver w ∈ P then [] else [.ver w]) ++ match r with
    | [] => []
    | p :: _ => .arc w p :: comp P r
theorem comp_congr {P P' : List Tok} : ∀ {way : List Int}, (∀ w ∈ way, (Tok.ver w ∈ P ↔ Tok.ver w ∈ P')) → comp P way = comp P' way := by
  intro way
  induction way with
  | nil => intro _; rfl
  | cons w r ih =>
    intro h
    have h1 := h w (by simp)
    have h2 := ih fun x hx => h x (List.mem_cons_of_mem _ hx)
    simp only [comp, h1, h2]
theorem goes_T : ∀ (M P : List Tok) (way c c' : List Int) (r : Int) (t0 : Tok), run (way, c) M = some ([r], c') → Inv (way, c) → P.getLast? = some t0 → way.head? = some t0.st →
    T (P ++ comp P way) → (∀ x, .ver x ∈ P ++ comp P way → x ∈ c) → (∀ x ∈ c', Tok.ver x ∈ P ++ M) → (P ++ M).Nodup → T (P ++ M) := by
  intro M
  induction M with
  | nil =>
    intro P way c c' r t0 h hi hl hh hT hc hc' hn
    cases h
    have := hc' r (hi.2 r (by simp))
    rw [List.append_nil] at this
    simpa [comp, this] using hT
  | cons t M ih =>
    intro P way c c' r t0 h hi hl hh hT hc hc' hn
    rw [run_cons, Option.bind_eq_some_iff] at h
    obtain ⟨⟨w1, c1⟩, h1, h2⟩ := h
    obtain ⟨hi1, hsub, hhd⟩ := step_inv h1 hi
    have asso : P ++ t :: M = (P ++ [t]) ++ M := by simp
    rw [asso] at hn hc' ⊢
    have hnt : t ∉ P := by
      have := (List.nodup_append.1 (List.nodup_append.1 hn).1)
      intro hm
      exact this.2.2 t hm t (by simp) rfl
    rcases step_cases h1 with ⟨v, rr, rfl, hw, e⟩ | ⟨u, v, rr, rfl, hw, e⟩ | ⟨u, v, rr, rfl, hw, hh2, hn2, e⟩
    · cases e
      simp only at hw
      subst hw
      have key : comp P (v :: rr) = .ver v :: comp (P ++ [.ver v]) (v :: rr) := by
        have e2 : comp P rr = comp (P ++ [.ver v]) rr := comp_congr fun w hwm => by
          have : w ≠ v := by rintro rfl; exact (List.nodup_cons.1 hi.1).1 hwm
          simp [this]
        simp only [comp, hnt, e2]
        simp
      rw [key] at hT hc
      exact ih _ _ _ _ _ (.ver v) h2 hi1 (by simp) hhd (by simpa using hT) (fun x hx => hc x (by simpa using hx)) hc' hn
    · cases e
      simp only at hw
      subst hw
      have hu : Tok.ver u ∈ P := by
        have hun := (List.nodup_cons.1 hi.1).1
        obtain ⟨g1, _⟩ := run_less (z := u) (c := c.filter (· ≠ u)) h2 hun (fun x => by
          simp only [List.mem_filter, decide_eq_true_eq]
          constructor
          · intro h
            by_cases e : x = u
            · exact .inr e
            · exact .inl ⟨h, by simpa using e⟩
          · rintro (h | rfl)
            · exact h.1
            · exact hi.2 x (by simp)) (by simp)
        have hmono := (run_inv h2 hi1).2.1 u (hi.2 u (by simp))
        have := hc' u hmono
        simp only [List.mem_append, List.mem_singleton, reduceCtorEq, or_false] at this
        rcases this with h | h
        · exact h
        · exact absurd h g1
      have key : comp P (u :: v :: rr) = .arc u v :: comp (P ++ [.arc u v]) (v :: rr) := by
        have e2 : comp P (v :: rr) = comp (P ++ [.arc u v]) (v :: rr) := comp_congr fun w hwm => by simp
        rw [← e2]
        simp only [comp, hu]
        simp
      rw [key] at hT hc
      exact ih _ _ _ _ _ (.arc u v) h2 hi1 (by simp) hhd (by simpa using hT) (fun x hx => hc x (by simpa using hx)) hc' hn
    · cases e
      simp only at hw hn2
      subst hw
      have hu : u = t0.st := by simpa using hh
      subst hu
      have hvc : ∀ x, Tok.ver x ∈ P ++ comp P (t0.st :: rr) → x ≠ v := by rintro x hx rfl; exact hn2 (hc x hx)
      have hvP : Tok.ver v ∉ P ++ comp P (t0.st :: rr) := fun hm => hvc v hm rfl
      have hvP' : Tok.ver v ∉ P := fun hm => hvP (by simp [hm])
      have key : comp (P ++ [.arc t0.st v]) (v :: t0.st :: rr) = .ver v :: .arc v t0.st :: comp P (t0.st :: rr) := by
        have e2 : comp (P ++ [.arc t0.st v]) (t0.st :: rr) = comp P (t0.st :: rr) := comp_congr fun w hwm => by simp
        rw [← e2]
        simp only [comp, List.mem_append, hvP', List.mem_singleton, reduceCtorEq, or_false, if_false]
        rfl
      have hne : t0.st ≠ v := by rintro e; exact hn2 (e ▸ hi.2 t0.st (by simp))
      refine ih _ _ _ _ _ (.arc t0.st v) h2 hi1 (by simp) hhd ?_ ?_ hc' hn
      · rw [key]
        obtain ⟨P0, rfl⟩ : ∃ P0, P = P0 ++ [t0] := List.getLast?_eq_some_iff.1 hl
        have hT1 : T (t0 :: (comp (P0 ++ [t0]) (t0.st :: rr) ++ P0)) := hT.of_rot ⟨P0, t0 :: comp (P0 ++ [t0]) (t0.st :: rr), by simp, by simp⟩
        have hT2 := T.add t0 _ v hT1 hne (by
          intro hm
          apply hvP
          simp only [List.mem_append, List.mem_cons, List.not_mem_nil, or_false] at hm ⊢
          rcases hm with h | h | h <;> simp [h])
        exact hT2.of_rot ⟨t0 :: .arc t0.st v :: .ver v :: .arc v t0.st :: comp (P0 ++ [t0]) (t0.st :: rr), P0, by simp, by simp⟩
      · intro x hx
        rw [key] at hx
        simp only [List.mem_append, List.mem_cons, List.not_mem_nil, or_false, reduceCtorEq, Tok.ver.injEq, false_or] at hx
        rcases hx with h | h | h
        · exact List.mem_cons_of_mem _ (hc x (by simp [h]))
        · simp [h]
        · exact List.mem_cons_of_mem _ (hc x (by simp [h]))
def Goes (l : List Tok) : Prop := ∃ r l' c, l = .ver r :: l' ∧ run ([r], [r]) l = some ([r], c) ∧ ∀ x ∈ c, Tok.ver x ∈ l
theorem Goes.toT {l : List Tok} (h : Goes l) (hn : l.Nodup) : T l := by
  obtain ⟨r, l', c, rfl, h1, h2⟩ := h
  rw [run_cons, step_ver, Option.bind_some] at h1
  have := goes_T l' [.ver r] [r] [r] c r (.ver r) h1 (Inv_one r) (by simp) (by simp [st]) (by simp [comp]; exact T.one r) (by simp [comp]) (by simpa using h2) (by simpa using hn)
  simpa using this
theorem T.toGoes {r : Int} {l : List Tok} (h : T (.ver r :: l)) : Goes (.ver r :: l) := by
  obtain ⟨t, ht⟩ : ∃ t, (Tok.ver r :: l).getLast? = some t := ⟨_, List.getLast?_eq_some_getLast (by simp)⟩
  obtain ⟨c, h1, h2⟩ := h.toC _ (Rot.refl _) t ht
  have h1' := h1
  rw [run_cons, Option.bind_eq_some_iff] at h1'
  obtain ⟨s, g1, _⟩ := h1'
  have e : t.st = r := by
    simp only [step] at g1
    split at g1
    · assumption
    · cases g1
  rw [e] at h1
  exact ⟨r, l, c, rfl, h1, fun x hx => (h2 x).1 hx⟩
end Go.Pev.Pl.Tok
end
section
namespace Go.Pev.Pl.Tok
theorem T.cons_ver {l : List Tok} (h : T l) : ∃ v r, Rot l (.ver v :: r) := by
  obtain ⟨f1, f2, _⟩ := h.facts
  obtain ⟨t, ht⟩ := List.exists_mem_of_ne_nil l f1
  obtain ⟨a, b, rfl⟩ := List.append_of_mem (f2 t ht)
  exact ⟨t.st, b ++ a, a, .ver t.st :: b, rfl, rfl⟩
theorem T.leaf {l : List Tok} (h : T l) : (∃ v, l = [.ver v]) ∨ ∃ x v r, Rot l (x :: .arc x.st v :: .ver v :: .arc v x.st :: r) := by
  induction h with
  | one v => exact .inl ⟨v, rfl⟩
  | add x l v h hne hv ih => exact .inr ⟨x, v, l, Rot.refl _⟩
  | rot a b h ih =>
    rcases ih with ⟨v, e⟩ | ⟨x, v, r, hr⟩
    · have hr : Rot [.ver v] (b ++ a) := ⟨a, b, e.symm, rfl⟩
      exact .inl ⟨v, List.perm_singleton.1 hr.perm.symm⟩
    · exact .inr ⟨x, v, r, Rot.trans ⟨b, a, rfl, rfl⟩ hr⟩
def vers : List Tok → List Int
  | [] => []
  | .ver v :: l => v :: vers l
  | .arc _ _ :: l => vers l
theorem mem_vers {v : Int} : ∀ {l : List Tok}, v ∈ vers l ↔ .ver v ∈ l
  | [] => by simp [vers]
  | .ver w :: l => by simp [vers, mem_vers (l := l)]
  | .arc _ _ :: l => by simp [vers, mem_vers (l := l)]
theorem vers_append (a b : List Tok) : vers (a ++ b) = vers a ++ vers b := by
  induction a with
  | nil => rfl
  | cons t a ih => cases t <;> simp [vers, ih]
theorem T.len {l : List Tok} (h : T l) : l.length + 2 = 3 * (vers l).length := by
  induction h with
  | one v => rfl
  | add x l v h hne hv ih =>
    cases x <;> simp [vers] at ih ⊢ <;> omega
  | rot a b h ih =>
    simp only [vers_append, List.length_append] at ih ⊢
    omega
end Go.Pev.Pl.Tok
end
section
namespace Go.Pev.Pl
open Tok
def In (n v : Int) : Prop := 1 ≤ n ∧ n ≤ 64 ∧ 0 ≤ v ∧ v < n
instance (n v : Int) : Decidable (In n v) := inferInstanceAs (Decidable (_ ∧ _))
def Sz (n : Int) : Prop := 1 ≤ n ∧ n ≤ 64
instance (n : Int) : Decidable (Sz n) := inferInstanceAs (Decidable (_ ∧ _))
theorem tsized_val (n : Int) : tsized (n, ()) = some (decide (Sz n), ()) := by
  rw [tsized_eq, tsized_d]
  simp only [ile_eq]
  by_cases h1 : 1 ≤ n <;> by_cases h2 : n ≤ 64 <;> simp [Sz, h1, h2]
theorem tin_val (n v : Int) : tin (n, v, ()) = some (decide (In n v), ()) := by
  rw [tin_eq, tin_d]
  simp only [tsized_val, ile_eq, ilt_eq]
  by_cases h1 : 1 ≤ n <;> by_cases h2 : n ≤ 64 <;> by_cases h3 : 0 ≤ v <;> simp [In, Sz, h1, h2, h3]
def vertex (n v : Int) : Int := if In n v then v else -1
def arcT (n u v : Int) : Int := if In n u ∧ In n v ∧ u ≠ v then n * (u + 1) + v else -1
theorem mul_bounds {n u : Int} (h1 : 1 ≤ n) (h2 : n ≤ 64) (h3 : 0 ≤ u) (h4 : u ≤ 64) : 0 ≤ n * u ∧ n * u ≤ 4096 := by
  refine ⟨Int.mul_nonneg (by omega) h3, ?_⟩
  have := Int.mul_le_mul h2 h4 h3 (by omega)
  omega
theorem tarc_val (n u v : Int) : tarc (n, u, v, ()) = some (arcT n u v, ()) := by
  rw [tarc_eq, tarc_d]
  simp only [tin_val, arcT, ieq_dec]
  by_cases h3 : u = v
  · simp [h3]
  · by_cases h1 : In n u
    · by_cases h2 : In n v
      · obtain ⟨a1, a2, a3, a4⟩ := h1
        obtain ⟨b1, b2, b3, b4⟩ := h2
        have hb := mul_bounds (u := u + 1) a1 a2 (by omega) (by omega)
        rw [wrap_in (n := u + 1) (by omega), wrap_in (n := n * (u + 1)) (by omega), wrap_in (n := n * (u + 1) + v) (by omega)]
        simp [In, a1, a2, a3, a4, b3, b4, h3]
      · simp [h1, h2, h3]
    · simp [h1, h3]
def tokOf (n t : Int) : Option Tok :=
  if In n t then some (.ver t)
  else if Sz n ∧ n ≤ t ∧ t < n * (n + 1) ∧ t / n - 1 ≠ t % n then some (.arc (t / n - 1) (t % n))
  else none
def tokR : Option Tok → Int × Int × Bool × Bool × Unit
  | some (.ver v) => (v, 0, false, true, ())
  | some (.arc u v) => (u, v, true, true, ())
  | none => (0, 0, false, false, ())
def encT (n : Int) : Tok → Int
  | .ver v => v
  | .arc u v => n * (u + 1) + v
def okT (n : Int) : Tok → Prop
  | .ver v => In n v
  | .arc u v => In n u ∧ In n v ∧ u ≠ v
theorem enc_arc {n u v : Int} (h1 : In n u) (h2 : In n v) : n ≤ n * (u + 1) + v ∧ n * (u + 1) + v < n * (n + 1) ∧ (n * (u + 1) + v) / n = u + 1 ∧ (n * (u + 1) + v) % n = v := by
  obtain ⟨a1, a2, a3, a4⟩ := h1
  obtain ⟨b1, b2, b3, b4⟩ := h2
  have e2 : n * (u + 1) = n * u + n := by rw [Int.mul_add, Int.mul_one]
  have e3 : n * (n + 1) = n * n + n := by rw [Int.mul_add, Int.mul_one]
  have hb := mul_bounds (u := u) a1 a2 (by omega) (by omega)
  have hle : n * (u + 1) ≤ n * n := Int.mul_le_mul_of_nonneg_left (by omega) (by omega)
  have hd : (n * (u + 1) + v) / n = u + 1 := by
    rw [Int.add_comm, Int.add_mul_ediv_left _ _ (by omega), Int.ediv_eq_zero_of_lt b3 b4]; omega
  have hm : (n * (u + 1) + v) % n = v := by
    rw [Int.add_comm, Int.add_mul_emod_self_left, Int.emod_eq_of_lt b3 b4]
  exact ⟨by omega, by omega, hd, hm⟩
theorem dec_arc {n t : Int} (hn : Sz n) (h1 : n ≤ t) (h2 : t < n * (n + 1)) : In n (t / n - 1) ∧ In n (t % n) ∧ n * (t / n - 1 + 1) + t % n = t := by
  obtain ⟨a1, a2⟩ := hn
  have g1 : 1 ≤ t / n := (Int.le_ediv_iff_mul_le (by omega)).2 (by omega)
  have g2 : t / n < n + 1 := (Int.ediv_lt_iff_lt_mul (by omega)).2 (by rw [Int.mul_comm]; exact h2)
  have g3 := Int.emod_nonneg t (show n ≠ 0 by omega)
  have g4 := Int.emod_lt_of_pos t (show 0 < n by omega)
  have g5 := Int.mul_ediv_add_emod t n
  refine ⟨⟨a1, a2, by omega, by omega⟩, ⟨a1, a2, g3, g4⟩, ?_⟩
  rw [Int.sub_add_cancel]
  exact g5
theorem tokOf_enc {n : Int} {t : Tok} (h : okT n t) : tokOf n (encT n t) = some t := by
  cases t with
  | ver v => simp only [okT] at h; simp [tokOf, encT, h]
  | arc u v =>
    obtain ⟨h1, h2, h3⟩ := h
    obtain ⟨g1, g2, g3, g4⟩ := enc_arc h1 h2
    have hni : ¬ In n (n * (u + 1) + v) := fun h => by have := h.2.2.2; omega
    have : u + 1 - 1 = u := by omega
    simp only [tokOf, encT, hni, if_false, g3, g4, this]
    rw [if_pos ⟨⟨h1.1, h1.2.1⟩, g1, g2, h3⟩]
theorem enc_tokOf {n x : Int} {t : Tok} (h : tokOf n x = some t) : okT n t ∧ encT n t = x := by
  rw [tokOf] at h
  split at h
  · cases h; exact ⟨by assumption, rfl⟩
  · split at h
    · rename_i hh
      cases h
      obtain ⟨d1, d2, d3⟩ := dec_arc hh.1 hh.2.1 hh.2.2.1
      exact ⟨⟨d1, d2, hh.2.2.2⟩, d3⟩
    · cases h
theorem arcT_enc {n u v : Int} (h : okT n (.arc u v)) : arcT n u v = encT n (.arc u v) := by
  simp only [okT] at h
  rw [arcT, if_pos h]; rfl
theorem enc_inj {n : Int} {a b : Tok} (ha : okT n a) (hb : okT n b) (h : encT n a = encT n b) : a = b := by
  have := tokOf_enc ha
  rw [h, tokOf_enc hb] at this
  exact (Option.some.inj this).symm
theorem ttoken_val (n t : Int) (ht : -9223372036854775808 ≤ t ∧ t ≤ 9223372036854775807) : ttoken (n, t, ()) = some (tokR (tokOf n t)) := by
  rw [ttoken_eq, ttoken_d]
  simp only [tsized_val]
  by_cases hs : Sz n
  · obtain ⟨a1, a2⟩ := hs
    have hb := mul_bounds (u := n) a1 a2 (by omega) (by omega)
    have e3 : n * (n + 1) = n * n + n := by rw [Int.mul_add, Int.mul_one]
    rw [wrap_in (n := n + 1) (by omega), wrap_in (n := n * (n + 1)) (by omega)]
    simp only [Sz, a1, a2, and_self, decide_true, Bool.not_true, ilt_eq, ile_eq]
    by_cases h1 : t < 0
    · have hni : ¬ In n t := fun h => by have := h.2.2.1; omega
      have h2 : ¬ n ≤ t := by omega
      simp only [h1, decide_true, tokOf, hni, if_false, h2, false_and, and_false, tokR]
    · simp only [h1, decide_false]
      by_cases h2 : n * (n + 1) ≤ t
      · have hni : ¬ In n t := fun h => by have := h.2.2.2; omega
        have h3 : ¬ t < n * (n + 1) := by omega
        simp only [h2, decide_true, tokOf, hni, if_false, h3, false_and, and_false, tokR]
      · simp only [h2, decide_false]
        by_cases h3 : t < n
        · have hi : In n t := ⟨a1, a2, by omega, h3⟩
          simp only [h3, decide_true, tokOf, hi, if_true, tokR]
        · have hni : ¬ In n t := fun h => h3 h.2.2.2
          have hq : t.tdiv n = t / n := Int.tdiv_eq_ediv_of_nonneg (by omega)
          have hm : t.tmod n = t % n := Int.tmod_eq_emod_of_nonneg (by omega)
          obtain ⟨d1, d2, d3⟩ := dec_arc (t := t) ⟨a1, a2⟩ (by omega) (by omega)
          have q1 := d1.2.2.1
          have q2 := d1.2.2.2
          simp only [h3, decide_false, quo_eq, quoR, rem_eq, remR]
          rw [if_neg (by omega), if_neg (by omega), hq, hm, wrap_in (n := t / n) (by omega)]
          simp only []
          rw [wrap_in (n := t / n - 1) (by omega), ieq_dec, tokOf, if_neg hni]
          by_cases h4 : t / n - 1 = t % n
          · rw [if_neg (by intro h; exact h.2.2.2 h4), decide_eq_true h4]; rfl
          · rw [if_pos ⟨⟨a1, a2⟩, by omega, by omega, h4⟩, decide_eq_false h4]; rfl
  · have hni : ¬ In n t := fun h => hs ⟨h.1, h.2.1⟩
    simp only [hs, decide_false, Bool.not_false, tokOf, hni, if_false, false_and, tokR]
def singles (n : Nat) : List (List Int) := (List.range n).map fun (v : Nat) => [(v : Int)]
theorem singles_succ (n : Nat) : singles (n + 1) = singles n ++ [[(n : Int)]] := by simp [singles, List.range_succ]
theorem singles_len (n : Nat) : (singles n).length = n := by simp [singles]
theorem tmake_loop (N : Nat) (hN : N ≤ 64) (c : Int) : ∀ (k i n : Nat), i + k = N → k < n → iterO tmake_s0 n (c, (N : Int), singles i, (N : Int), (i : Int), ()) = some (.inl (c, (N : Int), singles N, ())) := by
  intro k
  induction k with
  | zero =>
    intro i n hi hn
    obtain ⟨n, rfl⟩ : ∃ k, n = k + 1 := ⟨n - 1, by omega⟩
    have : i = N := by omega
    subst this
    rw [iterO, tmake_s0, ilt_nat, decide_eq_false (by omega)]
  | succ k ih =>
    intro i n hi hn
    obtain ⟨n, rfl⟩ : ∃ k, n = k + 1 := ⟨n - 1, by omega⟩
    rw [iterO, tmake_s0, ilt_nat, decide_eq_true (by omega)]
    simp only [dlen_l, singles_len, List.length_cons, List.length_nil]
    rw [fits_l (by omega), wrap_add1 (by omega)]
    simp only [dapp_l, ← singles_succ]
    exact ih (i + 1) n (by omega) (by omega)
def makeOut (n : Int) : Int × List (List Int) × Int × Unit := if Sz n then (n, singles n.toNat, 0, ()) else (0, [], 1, ())
theorem tmake_val (n : Int) : tmake (n, ()) = some (makeOut n) := by
  have hm : 4294967296 < many := by simp only [many]; omega
  rw [tmake_eq, tmake_d, makeOut]
  simp only [tsized_val]
  by_cases h : Sz n
  · obtain ⟨h1, h2⟩ := h
    obtain ⟨N, rfl⟩ := Int.eq_ofNat_of_zero_le (show 0 ≤ n by omega)
    have hS : Sz (N : Int) := ⟨by omega, by omega⟩
    have e := tmake_loop N (by omega) 0 N 0 many (by omega) (by omega)
    have e' : iterO tmake_s0 many (0, (N : Int), [], (N : Int), (0 : Int), ()) = _ := e
    simp [hS, iterL_eq, e']
  · simp [h]
end Go.Pev.Pl
end
section
namespace Go.Pev.Pl
section
variable {β : Type}
def keysM (es : List (Int × β)) : List Int := es.map Prod.fst
theorem keysM_len (es : List (Int × β)) : (keysM es).length = es.length := by simp [keysM]
theorem lookup_store (es : List (Int × β)) (k : Int) (v : β) (j : Int) : lookupM (storeM es k v) j = if j = k then some v else lookupM es j := by
  induction es with
  | nil =>
    simp only [storeM, lookupM]
    by_cases h : k = j
    · simp [h]
    · simp [h, Ne.symm h]
  | cons e es ih =>
    obtain ⟨a, b⟩ := e
    simp only [storeM]
    by_cases h : a = k
    · subst h
      simp only [if_true, lookupM]
      by_cases h2 : a = j
      · simp [h2]
      · simp [h2, Ne.symm h2]
    · simp only [h, if_false, lookupM, ih]
      by_cases h2 : a = j
      · subst h2; simp [h]
      · simp [h2]
theorem keys_store (es : List (Int × β)) (k : Int) (v : β) : keysM (storeM es k v) = if k ∈ keysM es then keysM es else keysM es ++ [k] := by
  induction es with
  | nil => rfl
  | cons e es ih =>
    obtain ⟨a, b⟩ := e
    simp only [storeM]
    by_cases h : a = k
    · subst h; simp [keysM]
    · simp only [h, if_false]
      show a :: keysM (storeM es k v) = _
      rw [ih]
      have : k ∈ keysM ((a, b) :: es) ↔ k ∈ keysM es := by simp [keysM, Ne.symm h]
      simp only [this]
      split <;> rfl
theorem lookup_none (es : List (Int × β)) (k : Int) : lookupM es k = none ↔ k ∉ keysM es := by
  induction es with
  | nil => simp [lookupM, keysM]
  | cons e es ih =>
    obtain ⟨a, b⟩ := e
    simp only [lookupM]
    by_cases h : a = k
    · simp [h, keysM]
    · simp only [h, if_false, ih]
      simp [keysM, Ne.symm h]
theorem mem_keys_store (es : List (Int × β)) (k : Int) (v : β) (j : Int) : j ∈ keysM (storeM es k v) ↔ j = k ∨ j ∈ keysM es := by
  rw [keys_store]
  split
  · rename_i h
    constructor
    · exact .inr
    · rintro (rfl | h2)
      · exact h
      · exact h2
  · simp [or_comm]
theorem nodup_keys_store {es : List (Int × β)} (h : (keysM es).Nodup) (k : Int) (v : β) : (keysM (storeM es k v)).Nodup := by
  rw [keys_store]
  split
  · exact h
  · rename_i hk
    rw [List.nodup_append]
    exact ⟨h, by simp, fun a ha b hb => by rintro rfl; simp at hb; exact hk (hb ▸ ha)⟩
end
def dd : List Int → List Int → List Int
  | ks, [] => ks
  | ks, x :: xs => dd (if x ∈ ks then ks else ks ++ [x]) xs
theorem dd_len : ∀ (xs ks : List Int), (dd ks xs).length ≤ ks.length + xs.length ∧ ((dd ks xs).length = ks.length + xs.length ↔ xs.Nodup ∧ ∀ x ∈ xs, x ∉ ks) := by
  intro xs
  induction xs with
  | nil => intro ks; simp [dd]
  | cons x xs ih =>
    intro ks
    rw [dd]
    by_cases h : x ∈ ks
    · obtain ⟨h1, _⟩ := ih ks
      rw [if_pos h]
      refine ⟨by simp only [List.length_cons]; omega, ?_, fun hh => absurd h (hh.2 x (by simp))⟩
      intro e
      simp only [List.length_cons] at e
      omega
    · obtain ⟨h1, h2⟩ := ih (ks ++ [x])
      rw [if_neg h]
      simp only [List.length_append, List.length_cons, List.length_nil, Nat.zero_add] at h1 h2 ⊢
      refine ⟨by omega, ?_⟩
      rw [show ks.length + (xs.length + 1) = ks.length + 1 + xs.length by omega, h2, List.nodup_cons]
      constructor
      · rintro ⟨g1, g2⟩
        refine ⟨⟨fun hx => g2 x hx (by simp), g1⟩, fun y hy => ?_⟩
        rcases List.mem_cons.1 hy with rfl | hy
        · exact h
        · exact fun hk => g2 y hy (by simp [hk])
      · rintro ⟨⟨g1, g2⟩, g3⟩
        refine ⟨g2, fun y hy hk => ?_⟩
        simp only [List.mem_append, List.mem_singleton] at hk
        rcases hk with hk | rfl
        · exact g3 y (by simp [hy]) hk
        · exact g1 hy
theorem dd_nodup (xs : List Int) : (dd [] xs).length = xs.length ↔ xs.Nodup := by
  have := (dd_len xs []).2
  simpa using this
theorem walk_fold {α β ρ : Type} (g : β → α → α) (fin : α → ρ) : ∀ (xs : List β) (a : α), walk (fun x a => .inl (g x a)) fin xs a = fin (xs.foldl (fun a x => g x a) a) := by
  intro xs
  induction xs with
  | nil => intro a; rfl
  | cons x xs ih => intro a; rw [walk, List.foldl_cons]; exact ih _
theorem findL {σ ρ β : Type} {step : σ → Option (σ ⊕ ρ)} (st : Nat → σ) (xs : List β) (P : β → Bool) (rt : Nat → ρ) (rf : ρ) (hs : xs.length < 9223372036854775808)
    (h : ∀ i x, i < xs.length → xs[i]? = some x → step (st i) = if P x then some (.inr (rt i)) else some (.inl (st (i + 1)))) (hN : step (st xs.length) = some (.inr rf)) :
    iterL step many (st 0) = some (if xs.any P then rt (xs.findIdx P) else rf) := by
  have key : ∀ (l : List β) (a : Nat), walk (fun x (a : Nat) => if P x then .inr (rt a) else .inl (a + 1)) (fun _ => rf) l a = if l.any P then rt (a + l.findIdx P) else rf := by
    intro l
    induction l with
    | nil => intro a; rfl
    | cons x l ih =>
      intro a
      rw [walk, List.any_cons, List.findIdx_cons]
      by_cases hx : P x = true
      · simp [hx]
      · simp only [hx, Bool.false_eq_true, if_false, Bool.false_or, cond_false]
        rw [ih, show a + 1 + List.findIdx P l = a + (List.findIdx P l + 1) by omega]
  have := walkL (step := step) (fun i (a : Nat) => st a) xs (fun x (a : Nat) => if P x then .inr (rt a) else .inl (a + 1)) (fun _ => rf) (fun i a => a = i) hs
    (fun i x a hi hx ha => by
      subst ha
      refine ⟨fun a' h' => ?_, fun r h' => ?_⟩
      · rw [h a x hi hx]
        split at h'
        · cases h'
        · rename_i hp
          cases h'
          simp [hp]
      · rw [h a x hi hx]
        split at h'
        · rename_i hp
          cases h'
          simp [hp]
        · cases h')
    (fun a ha => by subst ha; exact hN) 0 rfl
  rw [this, key, Nat.zero_add]
theorem idx_some {α : Type} {xs : List α} {n : Nat} {x : α} (h : xs[n]? = some x) : idx xs (n : Int) = some x := by rw [idx_get, h]
theorem dget_some {α : Type} {xs : List α} {n : Nat} {x z : α} (h : xs[n]? = some x) : dget xs (dnat (n : Int)) z = x := by
  rw [dget_l, List.getD_eq_getElem?_getD, h]; rfl
theorem subl_0 {α : Type} {xs : List α} {h : Nat} (h2 : h ≤ xs.length) : subl xs (0 : Int) (h : Int) = some (xs.take h) := by
  have := subl_l (xs := xs) (l := 0) (Nat.zero_le h) h2
  simpa using this
theorem subl_end {α : Type} {xs : List α} {l : Nat} (h1 : l ≤ xs.length) : subl xs (l : Int) (dlen xs) = some (xs.drop l) := by
  have := subl_l (xs := xs) h1 (Nat.le_refl _)
  rw [List.take_length] at this
  exact this
def pos (xs : List Int) (t : Int) : Int := if t ∈ xs then ((xs.findIdx (fun x => decide (x = t)) : Nat) : Int) else -1
theorem any_dec (xs : List Int) (t : Int) : (xs.any fun x => decide (x = t)) = decide (t ∈ xs) := by
  induction xs with
  | nil => rfl
  | cons x xs ih => simp only [List.any_cons, ih, List.mem_cons, Bool.decide_or]; congr 1; exact decide_eq_decide.2 eq_comm
theorem pos_in {xs : List Int} {t : Int} (h : t ∈ xs) : ∃ k : Nat, pos xs t = (k : Int) ∧ k < xs.length ∧ xs[k]? = some t ∧ xs = xs.take k ++ t :: xs.drop (k + 1) ∧ t ∉ xs.take k := by
  have hk : xs.findIdx (fun x => decide (x = t)) < xs.length := List.findIdx_lt_length.2 ⟨t, h, by simp⟩
  have hg : xs[xs.findIdx (fun x => decide (x = t))]'hk = t := by
    have := List.findIdx_getElem (xs := xs) (p := fun x => decide (x = t)) (w := hk)
    simpa using this
  refine ⟨_, by rw [pos, if_pos h], hk, by rw [List.getElem?_eq_getElem hk, hg], ?_, ?_⟩
  · conv => lhs; rw [← List.take_append_drop (xs.findIdx (fun x => decide (x = t))) xs, List.drop_eq_getElem_cons hk, hg]
  · intro hm
    obtain ⟨j, hj, e⟩ := List.mem_take_iff_getElem.1 hm
    have := List.not_of_lt_findIdx (p := fun x => decide (x = t)) (xs := xs) (i := j) (by omega)
    simp [e] at this
theorem pos_out {xs : List Int} {t : Int} (h : t ∉ xs) : pos xs t = -1 := by rw [pos, if_neg h]
end Go.Pev.Pl
end
section
namespace Go.Pev.Pl
theorem indexI_val (xs : List Int) (t : Int) (hs : xs.length < 9223372036854775808) : indexI (xs, t, ()) = some (pos xs t, ()) := by
  rw [indexI_eq, indexI_d]
  have e := findL (step := indexI_s0) (fun i => (xs, t, dlen xs, (i : Int), ())) xs (fun x => decide (x = t)) (fun i => .inl ((i : Int), ())) (.inr (.inl ())) hs
    (fun i x hi hx => by
      rw [indexI_s0, dlen_l, ilt_nat, decide_eq_true hi]
      simp only [idx_some hx, ieq_dec]
      by_cases h : x = t
      · simp [h]
      · simp only [h, Ne.symm h, decide_false]; rw [wrap_add1 (by omega)]; simp)
    (by rw [indexI_s0, dlen_l, ilt_nat, decide_eq_false (by omega)])
  have e' : iterL indexI_s0 many (xs, t, dlen xs, (0 : Int), ()) = _ := e
  rw [e', any_dec, pos]
  by_cases h : t ∈ xs <;> simp [h]
theorem containsI_val (xs : List Int) (t : Int) (hs : xs.length < 9223372036854775808) : containsI (xs, t, ()) = some (decide (t ∈ xs), ()) := by
  rw [containsI_eq, containsI_d]
  simp only [indexI_val xs t hs, ile_eq]
  by_cases h : t ∈ xs
  · obtain ⟨k, e, _⟩ := pos_in h
    rw [e]; simp [h]
  · rw [pos_out h]; simp [h]
def Rt (xs : List Int) : Prop := xs.length ≤ 1000 ∧ (∀ x ∈ xs, 0 ≤ x ∧ x ≤ 10000) ∧ xs.Nodup
instance (xs : List Int) : Decidable (Rt xs) := inferInstanceAs (Decidable (_ ∧ _ ∧ _))
theorem contOdd_val (xs : List Int) (hs : xs.length < 9223372036854775808) : contFuncI_odd (xs, ()) = some (xs.any (fun x => decide (x < 0) || decide (10000 < x)), ()) := by
  rw [contFuncI_odd_eq, contFuncI_odd_d, idxFuncI_odd_eq, idxFuncI_odd_d]
  have e := findL (step := idxFuncI_odd_s0) (fun i => (xs, dlen xs, (i : Int), ())) xs (fun x => decide (x < 0) || decide (10000 < x)) (fun i => .inl ((i : Int), ())) (.inr (.inl ())) hs
    (fun i x hi hx => by
      rw [idxFuncI_odd_s0, dlen_l, ilt_nat, decide_eq_true hi]
      simp only [idx_some hx, ilt_eq]
      rw [wrap_add1 (by omega)]
      by_cases h : x < 0
      · simp [h]
      · by_cases h2 : 10000 < x
        · simp [h, h2]
        · simp [h, h2])
    (by rw [idxFuncI_odd_s0, dlen_l, ilt_nat, decide_eq_false (by omega)])
  have e' : iterL idxFuncI_odd_s0 many (xs, dlen xs, (0 : Int), ()) = _ := e
  rw [e']
  generalize (xs.any fun x => decide (x < 0) || decide (10000 < x)) = b
  cases b <;> simp [ile_eq]
theorem once_val (xs : List Int) (hs : xs.length < 9223372036854775808) : once (xs, ()) = some (decide xs.Nodup, ()) := by
  rw [once_eq, once_d]
  have e := walkL (step := once_s0) (fun i m => (xs, m, xs, dlen xs, (i : Int), ())) xs (fun x m => .inl (storeM m x (IntKind.wrap .i64 (((lookupM m x).getD (0 : Int)) + (1 : Int))))) (fun m => .inl (xs, m, ())) (fun _ _ => True) hs
    (fun i x m hi hx _ => by
      refine ⟨fun m' h' => ?_, fun r h' => by cases h'⟩
      cases h'
      rw [once_s0, dlen_l, ilt_nat, decide_eq_true hi]
      simp only [idx_some hx]
      rw [wrap_add1 (by omega)]
      exact ⟨rfl, trivial⟩)
    (fun m _ => by rw [once_s0, dlen_l, ilt_nat, decide_eq_false (by omega)]) [] trivial
  have e' : iterL once_s0 many (xs, ([] : List (Int × Int)), xs, dlen xs, (0 : Int), ()) = _ := e
  rw [e', walk_fold]
  have key : ∀ (l : List Int) (m : List (Int × Int)), keysM (l.foldl (fun m x => storeM m x (IntKind.wrap .i64 (((lookupM m x).getD (0 : Int)) + (1 : Int)))) m) = dd (keysM m) l := by
    intro l
    induction l with
    | nil => intro m; rfl
    | cons x l ih => intro m; rw [List.foldl_cons, ih, keys_store, dd]
  have hk := key xs []
  generalize xs.foldl (fun m x => storeM m x (IntKind.wrap .i64 (((lookupM m x).getD (0 : Int)) + (1 : Int)))) [] = m at *
  simp only [ieq_dlen]
  have : m.length = (dd [] xs).length := by rw [← keysM_len, hk]; rfl
  rw [this]
  simp only [dd_nodup]
theorem rright_val (xs : List Int) : rright (xs, ()) = some (decide (Rt xs), ()) := by
  rw [rright_eq, rright_d, dlen_l, ilt_eq]
  by_cases hl : xs.length ≤ 1000
  · rw [decide_eq_false (by omega)]
    simp only [contOdd_val xs (by omega), once_val xs (by omega)]
    have hany : (xs.any fun x => decide (x < 0) || decide (10000 < x)) = !decide (∀ x ∈ xs, 0 ≤ x ∧ x ≤ 10000) := by
      rw [Bool.eq_iff_iff]
      simp only [List.any_eq_true, Bool.or_eq_true, decide_eq_true_eq, Bool.not_eq_true', decide_eq_false_iff_not]
      constructor
      · rintro ⟨x, hx, h⟩ hh
        have := hh x hx
        omega
      · intro h
        refine Classical.byContradiction fun hc => h fun x hx => ?_
        refine Classical.byContradiction fun hn => hc ⟨x, hx, by omega⟩
    rw [hany]
    by_cases h1 : ∀ x ∈ xs, 0 ≤ x ∧ x ≤ 10000
    · rw [decide_eq_true h1]
      by_cases h2 : xs.Nodup
      · rw [decide_eq_true h2, decide_eq_true (show Rt xs from ⟨hl, h1, h2⟩)]; rfl
      · rw [decide_eq_false h2, decide_eq_false (show ¬ Rt xs from fun h => h2 h.2.2)]; rfl
    · rw [decide_eq_false h1, decide_eq_false (show ¬ Rt xs from fun h => h1 h.2.1)]; rfl
  · rw [decide_eq_true (by omega), decide_eq_false (show ¬ Rt xs from fun h => hl h.1)]
def rot (xs : List Int) (k : Nat) : List Int := xs.drop k ++ xs.take k
theorem growI_val (n : Nat) (hn : n < 4294967296) : growI ((n : Int), ()) = some ([], ()) := by
  have e0 : IntKind.wrap .i64 ((n : Int) - IntKind.wrap .i64 ((0 : Int) - 0)) = (n : Int) := by rw [wrap_in (n := (0 : Int) - 0) (by omega), wrap_in (by omega)]; omega
  rw [growI_eq, growI_d]
  simp only [e0, ilt_eq]
  rw [decide_eq_false (by omega)]
  simp only []
  by_cases h : 0 < n
  · rw [decide_eq_true (by omega)]
    have s1 : subl ([] : List Unit) (0 : Int) (0 : Int) = some [] := by rw [subl_eq]; rfl
    have s2 : subl (drep (dnat (n : Int)) (0 : Int)) (0 : Int) (0 : Int) = some [] := by
      rw [subl_eq, sublR, if_pos (by omega)]
      simp
    have s3 : fitsI (n : Int) = true := (fitsI_iff _).2 (by omega)
    simp only [s1, s2, s3]
    rfl
  · rw [decide_eq_false (by omega)]
theorem flatten_take_succ {α : Type} {xss : List (List α)} {i : Nat} {x : List α} (h : xss[i]? = some x) : (xss.take (i + 1)).flatten = (xss.take i).flatten ++ x := by
  rw [List.take_add_one, h]; simp
theorem flatten_take_le {α : Type} (xss : List (List α)) (i : Nat) : (xss.take i).flatten.length ≤ xss.flatten.length := by
  conv => rhs; rw [← List.take_append_drop i xss, List.flatten_append, List.length_append]
  omega
theorem concatI_val (xss : List (List Int)) (hs : xss.length < 4294967296) (h : xss.flatten.length < 4294967296) : concatI (xss, ()) = some (xss.flatten, ()) := by
  rw [concatI_eq, concatI_d]
  have e := walkL (step := concatI_s0) (fun i (a : Nat) => (xss, (a : Int), xss, dlen xss, (i : Int), ())) xss (fun x a => .inl (a + x.length)) (fun a => .inl (xss, (a : Int), ())) (fun i a => a = (xss.take i).flatten.length) (by omega)
    (fun i x a hi hx ha => by
      refine ⟨fun m' h' => ?_, fun r h' => by cases h'⟩
      cases h'
      have h1 := flatten_take_succ hx
      have h2 := flatten_take_le xss (i + 1)
      rw [h1, List.length_append] at h2
      rw [concatI_s0]
      simp only [dlen_l]
      rw [ilt_nat, decide_eq_true hi]
      simp only [idx_some hx]
      rw [wrap_add (by omega), wrap_add1 (by omega), ilt_eq, decide_eq_false (by omega)]
      exact ⟨rfl, by rw [h1, List.length_append, ha]⟩)
    (fun a _ => by rw [concatI_s0, dlen_l, ilt_nat, decide_eq_false (by omega)]) 0 rfl
  have e' : iterL concatI_s0 many (xss, (0 : Int), xss, dlen xss, (0 : Int), ()) = _ := e
  rw [e', walk_fold]
  have hsum : ∀ (l : List (List Int)) (a : Nat), l.foldl (fun a x => a + x.length) a = a + l.flatten.length := by
    intro l
    induction l with
    | nil => intro a; rfl
    | cons x l ih => intro a; rw [List.foldl_cons, ih, List.flatten_cons, List.length_append]; omega
  rw [hsum, Nat.zero_add]
  simp only [growI_val _ h]
  have g := walkL (step := concatI_s1) (fun i (a : List Int) => (a, xss, dlen xss, (i : Int), ())) xss (fun x a => .inl (a ++ x)) (fun a => .inl (a, ())) (fun i a => a = (xss.take i).flatten) (by omega)
    (fun i x a hi hx ha => by
      refine ⟨fun m' h' => ?_, fun r h' => by cases h'⟩
      cases h'
      have h1 := flatten_take_succ hx
      have h2 := flatten_take_le xss (i + 1)
      rw [h1, List.length_append] at h2
      rw [concatI_s1]
      simp only [dlen_l]
      rw [ilt_nat, decide_eq_true hi]
      simp only [idx_some hx]
      rw [wrap_add1 (by omega), fits_l (by rw [ha]; omega)]
      exact ⟨rfl, by rw [h1, ha]⟩)
    (fun a _ => by rw [concatI_s1, dlen_l, ilt_nat, decide_eq_false (by omega)]) [] rfl
  have g' : iterL concatI_s1 many ([], xss, dlen xss, (0 : Int), ()) = _ := g
  rw [g', walk_fold]
  have hcat : ∀ (l : List (List Int)) (a : List Int), l.foldl (fun a x => a ++ x) a = a ++ l.flatten := by
    intro l
    induction l with
    | nil => intro a; simp
    | cons x l ih => intro a; rw [List.foldl_cons, ih, List.flatten_cons, List.append_assoc]
  rw [hcat]
  rfl
theorem turned_val (xs : List Int) (k : Nat) (hk : k ≤ xs.length) (hs : xs.length < 2147483648) : turned (xs, (k : Int), ()) = some (rot xs k, ()) := by
  rw [turned_eq, turned_d]
  simp only [subl_end hk, subl_0 hk]
  rw [concatI_val _ (by simp) (by simp; omega)]
  simp [rot]
def rotAt (xs : List Int) (t : Int) : List Int := rot xs (xs.findIdx (fun x => decide (x = t)))
def fromOut (xs : List Int) (t : Int) : List Int × Bool × Unit := if Rt xs ∧ t ∈ xs then (rotAt xs t, true, ()) else ([], false, ())
theorem rotAt_in {xs : List Int} {t : Int} (h : t ∈ xs) : ∃ a b, xs = a ++ t :: b ∧ t ∉ a ∧ rotAt xs t = t :: b ++ a := by
  obtain ⟨k, e, hk, hg, h1, h2⟩ := pos_in h
  rw [pos, if_pos h] at e
  have e' : xs.findIdx (fun x => decide (x = t)) = k := by omega
  refine ⟨_, _, h1, h2, ?_⟩
  rw [rotAt, e', rot]
  congr 1
  rw [List.drop_eq_getElem_cons hk]
  congr 1
  simpa [hk] using hg
theorem rfrom_val (xs : List Int) (t : Int) : rfrom (xs, t, ()) = some (fromOut xs t) := by
  rw [rfrom_eq, rfrom_d, places_eq, places_d, fromOut]
  simp only [rright_val]
  by_cases hr : Rt xs
  · have hl := hr.1
    simp only [hr, decide_true, Bool.not_true, true_and]
    have e : iterL places_s0 many (xs, [], [t], dlen [t], (0 : Int), ()) = some (.inl ([pos xs t], ())) := by
      have g := walkL (step := places_s0) (fun i (a : List Int) => (xs, a, [t], dlen [t], (i : Int), ())) [t] (fun x a => .inl (a ++ [pos xs x])) (fun a => .inl (a, ())) (fun i a => a.length = i) (by simp)
        (fun i x a hi hx ha => by
          refine ⟨fun m' h' => ?_, fun r h' => by cases h'⟩
          cases h'
          rw [places_s0, dlen_l, ilt_nat, decide_eq_true hi]
          simp only [idx_some hx, indexI_val xs x (by omega)]
          simp only [List.length_cons, List.length_nil] at hi
          rw [wrap_add1 (by omega), fits_l (by simp only [dlen_l, List.length_cons, List.length_nil]; omega)]
          exact ⟨rfl, by simp [ha]⟩)
        (fun a _ => by rw [places_s0, dlen_l, ilt_nat, decide_eq_false (by omega)]) [] rfl
      have g' : iterL places_s0 many (xs, [], [t], dlen [t], (0 : Int), ()) = _ := g
      rw [g']; rfl
    rw [e]
    simp only [containsI_val [pos xs t] (-1) (by simp)]
    by_cases h : t ∈ xs
    · have hk : xs.findIdx (fun x => decide (x = t)) < xs.length := List.findIdx_lt_length.2 ⟨t, h, by simp⟩
      rw [pos, if_pos h, if_pos h, rotAt]
      generalize xs.findIdx (fun x => decide (x = t)) = k at *
      rw [decide_eq_false (by simp)]
      have i0 : idx [(k : Int)] (0 : Int) = some (k : Int) := by rw [idx_zero]; rfl
      have d0 : dget [(k : Int)] 0 (0 : Int) = (k : Int) := rfl
      simp only [Bool.not_false, Bool.not_true, i0, d0, turned_val xs k (by omega) (by omega)]
    · rw [pos_out h, if_neg h]
      simp
  · simp [hr]
def minL : List Int → Int
  | [] => 0
  | x :: xs => xs.foldl (fun a y => imin a y) x
theorem foldl_imin : ∀ (xs : List Int) (a : Int), (xs.foldl (fun a y => imin a y) a) ≤ a ∧ (∀ x ∈ xs, xs.foldl (fun a y => imin a y) a ≤ x) ∧ (xs.foldl (fun a y => imin a y) a = a ∨ xs.foldl (fun a y => imin a y) a ∈ xs) := by
  intro xs
  induction xs with
  | nil => intro a; simp
  | cons x xs ih =>
    intro a
    rw [List.foldl_cons]
    obtain ⟨h1, h2, h3⟩ := ih (imin a x)
    have hm : imin a x ≤ a ∧ imin a x ≤ x ∧ (imin a x = a ∨ imin a x = x) := by
      rw [imin]; split <;> omega
    refine ⟨by omega, fun y hy => ?_, ?_⟩
    · rcases List.mem_cons.1 hy with rfl | hy
      · omega
      · exact h2 y hy
    · rcases h3 with h | h
      · rcases hm.2.2 with e | e
        · exact .inl (by rw [h, e])
        · exact .inr (by rw [h, e]; simp)
      · exact .inr (List.mem_cons_of_mem _ h)
theorem minL_spec {xs : List Int} (h : xs ≠ []) : minL xs ∈ xs ∧ ∀ x ∈ xs, minL xs ≤ x := by
  cases xs with
  | nil => exact absurd rfl h
  | cons x xs =>
    obtain ⟨h1, h2, h3⟩ := foldl_imin xs x
    refine ⟨?_, fun y hy => ?_⟩
    · rcases h3 with h | h
      · rw [minL, h]; simp
      · exact List.mem_cons_of_mem _ h
    · rcases List.mem_cons.1 hy with rfl | hy
      · exact h1
      · exact h2 y hy
theorem minL_eq {xs : List Int} {m : Int} (h1 : m ∈ xs) (h2 : ∀ x ∈ xs, m ≤ x) : minL xs = m := by
  obtain ⟨g1, g2⟩ := minL_spec (List.ne_nil_of_mem h1)
  have := g2 m h1
  have := h2 _ g1
  omega
theorem minI_val (xs : List Int) (h : xs ≠ []) (hs : xs.length < 9223372036854775808) : minI (xs, ()) = some (minL xs, ()) := by
  cases xs with
  | nil => exact absurd rfl h
  | cons x xs =>
    rw [minI_eq, minI_d, dlen_l, ilt_eq, decide_eq_false (by simp only [List.length_cons]; omega)]
    have i0 : idx (x :: xs) (0 : Int) = some x := by rw [idx_zero]; rfl
    simp only [i0]
    simp only [List.length_cons] at hs
    have e := walkL (step := minI_s0) (fun i (a : Int) => (x :: xs, a, ((i + 1 : Nat) : Int), ())) xs (fun y a => .inl (imin a y)) (fun a => .inl (a, ())) (fun _ _ => True) (by omega)
      (fun i y a hi hy _ => by
        refine ⟨fun m' h' => ?_, fun r h' => by cases h'⟩
        cases h'
        rw [minI_s0, dlen_l, ilt_nat, decide_eq_true (by simp only [List.length_cons]; omega)]
        simp only [idx_some (xs := x :: xs) (n := i + 1) (by simpa using hy)]
        rw [wrap_add1 (by omega)]
        exact ⟨rfl, trivial⟩)
      (fun a _ => by rw [minI_s0, dlen_l, ilt_nat, decide_eq_false (by simp)]) x trivial
    have e' : iterL minI_s0 many (x :: xs, x, (1 : Int), ()) = _ := e
    rw [e', walk_fold]
    rfl
def plain (xs : List Int) : List Int := if Rt xs ∧ xs ≠ [] then rotAt xs (minL xs) else []
theorem rplain_val (xs : List Int) : rplain (xs, ()) = some (plain xs, ()) := by
  rw [rplain_eq, rplain_d, plain]
  simp only [rright_val]
  by_cases hr : Rt xs
  · have hl := hr.1
    simp only [hr, decide_true, Bool.not_true, true_and]
    by_cases h : xs = []
    · subst h; simp [dlen_l, ieq_eq]
    · have hp : 0 < xs.length := List.length_pos_iff.2 h
      rw [dlen_l, ieq_dec, decide_eq_false (by omega)]
      have hm := (minL_spec h).1
      have hk : xs.findIdx (fun x => decide (x = minL xs)) < xs.length := List.findIdx_lt_length.2 ⟨_, hm, by simp⟩
      simp only [minI_val xs h (by omega), indexI_val xs _ (show xs.length < 9223372036854775808 by omega)]
      rw [pos, if_pos hm, if_pos (by simpa using h), rotAt]
      simp only [turned_val xs _ (Nat.le_of_lt hk) (by omega)]
  · simp [hr]
theorem plain_nonempty {xs : List Int} (hr : Rt xs) (h : xs ≠ []) : ∃ a b, xs = a ++ minL xs :: b ∧ plain xs = minL xs :: b ++ a := by
  obtain ⟨a, b, h1, _, h2⟩ := rotAt_in (minL_spec h).1
  exact ⟨a, b, h1, by rw [plain, if_pos ⟨hr, h⟩, h2]⟩
end Go.Pev.Pl
end
