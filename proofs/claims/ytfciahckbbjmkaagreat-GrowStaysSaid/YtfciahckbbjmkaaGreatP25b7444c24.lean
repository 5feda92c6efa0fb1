/- A part of the proofs of this seat: G22M1 G22M2 G22M3 G22M4 G22M Pln PlnB. -/
import Derived.Test.YtfciahckbbjmkaaGreatP9d38532996
import Derived.IntWalk
import Derived.Sort.AssemblyPlain
set_option linter.unusedVariables false
set_option linter.unusedSimpArgs false
set_option linter.unusedSectionVars false
section
namespace Go.Pev
set_option maxRecDepth 100000
noncomputable section
attribute [local irreducible] fitsR fitsIR idxR sublR iltR ileR ieqR quoR remR shlR shrR cloneR iterO many IntKind.wrap dlen dset dget dapp dtake dcut drep dnat dclear imin imax lookupM storeM
-- archipelago/archipelagoref01.Ints
abbrev ints01_i : Items := [(.tmp 0, .dat (.slice (.int .i64))), (.tmp 1, .dat (.slice (.int .i64)))]
abbrev ints01_o : Items := [(.tmp 0, .dat .bool)]
abbrev ints01_r : List RS := [.one]
abbrev ints01_i0 : Items := [(.tmp 0, .dat (.slice (.int .i64))), (.tmp 1, .dat (.slice (.int .i64))), (.tmp 5, .di)]
abbrev ints01_o0 : Outs := [(.ret, [(.tmp 4, .dat .bool)]), (.exit 0, [])]
def ints01_s0 [Lk] : (List Int × List Int × Int × Unit) → Option ((List Int × List Int × Int × Unit) ⊕ (Bool × Unit) ⊕ (Unit) ⊕ Unit) := fun (a0, a1, a2, _) =>
 match (ilt a2 (dlen a0)) with
 | true => match idx a0 a2 with
  | none => none
  | some x0 => match idx a1 a2 with
   | none => none
   | some x1 => match (!(ieq x0 x1)) with
    | true => some (.inr (.inl (false, ())))
    | false => some (.inl (a0, a1, (IntKind.wrap .i64 (a2 + 1)), ()))
 | false => some (.inr (.inr (.inl ())))
def ints01_d [Lk] : (List Int × List Int × Unit) → Option ((Bool × Unit)) := fun (a0, a1, _) =>
 match (!(ieq (dlen a0) (dlen a1))) with
 | true => some (false, ())
 | false => match iterL ints01_s0 many (a0, a1, 0, ()) with
  | none => none
  | some r => match r with
   | .inl (o0, _) => some (o0, ())
   | .inr r => match r with
    | .inl _ => some (true, ())
    | .inr _ => none
def ints01 [Lk] := fun v => Lk.f (ints01_d v)
theorem ints01_eq v : ints01 v = ints01_d v := lock_eq _
-- archipelago/tour.sized
abbrev tsized_i : Items := [(.tmp 0, .di)]
abbrev tsized_o : Items := [(.tmp 0, .dat .bool)]
abbrev tsized_r : List RS := [.one]
def tsized_d [Lk] : (Int × Unit) → Option ((Bool × Unit)) := fun (a0, _) =>
 match (ile 1 a0) with
 | true => some ((ile a0 64), ())
 | false => some (false, ())
def tsized [Lk] := fun v => Lk.f (tsized_d v)
theorem tsized_eq v : tsized v = tsized_d v := lock_eq _
-- archipelago/tour.in
abbrev tin_i : Items := [(.tmp 0, .di), (.tmp 1, .di)]
abbrev tin_o : Items := [(.tmp 0, .dat .bool)]
abbrev tin_r : List RS := [.one]
def tin_d [Lk] : (Int × Int × Unit) → Option ((Bool × Unit)) := fun (a0, a1, _) =>
 match tsized (a0, ()) with
 | none => none
 | some (y0, _) => match y0 with
  | true => match (ile 0 a1) with
   | true => some ((ilt a1 a0), ())
   | false => some (false, ())
  | false => some (false, ())
def tin [Lk] := fun v => Lk.f (tin_d v)
theorem tin_eq v : tin v = tin_d v := lock_eq _
-- archipelago/tour.Arc
abbrev tarc_i : Items := [(.tmp 0, .di), (.tmp 1, .di), (.tmp 2, .di)]
abbrev tarc_o : Items := [(.tmp 0, .di)]
abbrev tarc_r : List RS := [.one]
def tarc_d [Lk] : (Int × Int × Int × Unit) → Option ((Int × Unit)) := fun (a0, a1, a2, _) =>
 match (ieq a1 a2) with
 | true => some ((-1 : Int), ())
 | false => match tin (a0, a1, ()) with
  | none => none
  | some (y0, _) => match (!y0) with
   | true => some ((-1 : Int), ())
   | false => match tin (a0, a2, ()) with
    | none => none
    | some (y1, _) => match (!y1) with
     | true => some ((-1 : Int), ())
     | false => some ((IntKind.wrap .i64 ((IntKind.wrap .i64 (a0 * (IntKind.wrap .i64 (a1 + 1)))) + a2)), ())
def tarc [Lk] := fun v => Lk.f (tarc_d v)
theorem tarc_eq v : tarc v = tarc_d v := lock_eq _
-- archipelago/tour.Token
abbrev ttoken_i : Items := [(.tmp 0, .di), (.tmp 1, .di)]
abbrev ttoken_o : Items := [(.tmp 0, .di), (.tmp 1, .di), (.tmp 2, .dat .bool), (.tmp 3, .dat .bool)]
abbrev ttoken_r : List RS := [.one, .one, .one, .one]
def ttoken_d [Lk] : (Int × Int × Unit) → Option ((Int × Int × Bool × Bool × Unit)) := fun (a0, a1, _) =>
 match tsized (a0, ()) with
 | none => none
 | some (y0, _) => match (!y0) with
  | true => some (0, 0, false, false, ())
  | false => match (ilt a1 0) with
   | true => some (0, 0, false, false, ())
   | false => match (ile (IntKind.wrap .i64 (a0 * (IntKind.wrap .i64 (a0 + 1)))) a1) with
    | true => some (0, 0, false, false, ())
    | false => match (ilt a1 a0) with
     | true => some (a1, 0, false, true, ())
     | false => match quo? .i64 a1 a0 with
      | none => none
      | some x1 => match rem? a1 a0 with
       | none => none
       | some x2 => match (ieq (IntKind.wrap .i64 (x1 - 1)) x2) with
        | true => some (0, 0, false, false, ())
        | false => some ((IntKind.wrap .i64 (x1 - 1)), x2, true, true, ())
def ttoken [Lk] := fun v => Lk.f (ttoken_d v)
theorem ttoken_eq v : ttoken v = ttoken_d v := lock_eq _
-- archipelago/tour.Make
abbrev tmake_i : Items := [(.tmp 0, .di)]
abbrev tmake_o : Items := [(.tmp 0, .di), (.tmp 1, .own 43 (.slice (.int .i64))), (.tmp 2, .di)]
abbrev tmake_r : List RS := [.agg 2, .one]
abbrev tmake_i0 : Items := [(.tmp 2, .box 2), (.cell 0 0, .di), (.cell 0 1, .nil (.slice (.int .i64))), (.tmp 4, .box 2), (.cell 1 0, .di), (.cell 1 1, .own 43 (.slice (.int .i64))), (.tmp 12, .di), (.tmp 13, .di)]
abbrev tmake_o0 : Outs := [(.exit 0, [(.tmp 2, .box 2), (.cell 0 0, .di), (.cell 0 1, .nil (.slice (.int .i64))), (.tmp 4, .box 2), (.cell 1 0, .di), (.cell 1 1, .own 43 (.slice (.int .i64)))])]
def tmake_s0 [Lk] : (Int × Int × List (List Int) × Int × Int × Unit) → Option ((Int × Int × List (List Int) × Int × Int × Unit) ⊕ (Int × Int × List (List Int) × Unit) ⊕ Unit) := fun (a0, a1, a2, a3, a4, _) =>
 match (ilt a4 a3) with
 | true => match (fits ((dlen a2) + (dlen ([([a4] : List (Int))] : List (List Int))))) with
  | true => some (.inl (a0, a1, (dapp a2 ([([a4] : List (Int))] : List (List Int))), a3, (IntKind.wrap .i64 (a4 + 1)), ()))
  | false => none
 | false => some (.inr (.inl (a0, a1, a2, ())))
def tmake_d [Lk] : (Int × Unit) → Option ((Int × List (List Int) × Int × Unit)) := fun (a0, _) =>
 match tsized (a0, ()) with
 | none => none
 | some (y0, _) => match (!y0) with
  | true => some (0, ([] : List (List Int)), 1, ())
  | false => match iterL tmake_s0 many (0, a0, ([] : List (List Int)), a0, 0, ()) with
   | none => none
   | some r => match r with
    | .inl (o1, o2, o3, _) => some (o2, o3, 0, ())
    | .inr _ => none
def tmake [Lk] := fun v => Lk.f (tmake_d v)
theorem tmake_eq v : tmake v = tmake_d v := lock_eq _
-- slices.Index[[]int,int]
abbrev indexI_i : Items := [(.tmp 0, .dat (.slice (.int .i64))), (.tmp 1, .di)]
abbrev indexI_o : Items := [(.tmp 0, .di)]
abbrev indexI_r : List RS := [.one]
abbrev indexI_i0 : Items := [(.tmp 0, .dat (.slice (.int .i64))), (.tmp 1, .di), (.tmp 7, .di), (.tmp 8, .di)]
abbrev indexI_o0 : Outs := [(.ret, [(.tmp 4, .di)]), (.exit 0, [])]
def indexI_s0 [Lk] : (List Int × Int × Int × Int × Unit) → Option ((List Int × Int × Int × Int × Unit) ⊕ (Int × Unit) ⊕ (Unit) ⊕ Unit) := fun (a0, a1, a2, a3, _) =>
 match (ilt a3 a2) with
 | true => match idx a0 a3 with
  | none => none
  | some x0 => match (ieq a1 x0) with
   | true => some (.inr (.inl (a3, ())))
   | false => some (.inl (a0, a1, a2, (IntKind.wrap .i64 (a3 + 1)), ()))
 | false => some (.inr (.inr (.inl ())))
def indexI_d [Lk] : (List Int × Int × Unit) → Option ((Int × Unit)) := fun (a0, a1, _) =>
 match iterL indexI_s0 many (a0, a1, (dlen a0), 0, ()) with
 | none => none
 | some r => match r with
  | .inl (o0, _) => some (o0, ())
  | .inr r => match r with
   | .inl _ => some ((-1 : Int), ())
   | .inr _ => none
def indexI [Lk] := fun v => Lk.f (indexI_d v)
theorem indexI_eq v : indexI v = indexI_d v := lock_eq _
-- slices.Contains[[]int,int]
abbrev containsI_i : Items := [(.tmp 0, .dat (.slice (.int .i64))), (.tmp 1, .di)]
abbrev containsI_o : Items := [(.tmp 0, .dat .bool)]
abbrev containsI_r : List RS := [.one]
def containsI_d [Lk] : (List Int × Int × Unit) → Option ((Bool × Unit)) := fun (a0, a1, _) =>
 match indexI (a0, a1, ()) with
 | none => none
 | some (y0, _) => some ((ile 0 y0), ())
def containsI [Lk] := fun v => Lk.f (containsI_d v)
theorem containsI_eq v : containsI v = containsI_d v := lock_eq _
-- slices.Min[[]int,int]
abbrev minI_i : Items := [(.tmp 0, .dat (.slice (.int .i64)))]
abbrev minI_o : Items := [(.tmp 0, .di)]
abbrev minI_r : List RS := [.one]
abbrev minI_i0 : Items := [(.tmp 0, .dat (.slice (.int .i64))), (.tmp 3, .di), (.tmp 4, .di)]
abbrev minI_o0 : Outs := [(.exit 0, [(.tmp 3, .di)])]
def minI_s0 [Lk] : (List Int × Int × Int × Unit) → Option ((List Int × Int × Int × Unit) ⊕ (Int × Unit) ⊕ Unit) := fun (a0, a1, a2, _) =>
 match (ilt a2 (dlen a0)) with
 | true => match idx a0 a2 with
  | none => none
  | some x0 => some (.inl (a0, (imin a1 x0), (IntKind.wrap .i64 (a2 + 1)), ()))
 | false => some (.inr (.inl (a1, ())))
def minI_d [Lk] : (List Int × Unit) → Option ((Int × Unit)) := fun (a0, _) =>
 match (ilt (dlen a0) 1) with
 | true => none
 | false => match idx a0 0 with
  | none => none
  | some x0 => match iterL minI_s0 many (a0, x0, 1, ()) with
   | none => none
   | some r => match r with
    | .inl (o1, _) => some (o1, ())
    | .inr _ => none
def minI [Lk] := fun v => Lk.f (minI_d v)
theorem minI_eq v : minI v = minI_d v := lock_eq _
-- slices.Grow[[]int,int]
abbrev growI_i : Items := [(.tmp 0, .nil (.int .i64)), (.tmp 1, .di)]
abbrev growI_o : Items := [(.tmp 0, .own 3 (.int .i64))]
abbrev growI_r : List RS := [.one]
def growI_d [Lk] : (Int × Unit) → Option ((List Int × Unit)) := fun (a0, _) =>
 match (ilt a0 0) with
 | true => none
 | false => match (ilt 0 (IntKind.wrap .i64 (a0 - (IntKind.wrap .i64 (0 - 0))))) with
  | true => match subl ([] : List Unit) 0 0 with
   | none => none
   | some _u0 => match (fitsI (IntKind.wrap .i64 (a0 - (IntKind.wrap .i64 (0 - 0))))) with
    | true => match subl (drep (dnat (IntKind.wrap .i64 (a0 - (IntKind.wrap .i64 ((0 : Int) - (0 : Int)))))) (0 : Int)) (0 : Int) (0 : Int) with
     | none => none
     | some x1 => some ((dtake (dnat (dlen x1)) (drep (dnat (IntKind.wrap .i64 (a0 - (IntKind.wrap .i64 ((0 : Int) - (0 : Int)))))) (0 : Int))), ())
    | false => none
  | false => some (([] : List (Int)), ())
def growI [Lk] := fun v => Lk.f (growI_d v)
theorem growI_eq v : growI v = growI_d v := lock_eq _
-- slices.Concat[[]int,int]
abbrev concatI_i : Items := [(.tmp 0, .dat (.slice (.slice (.int .i64))))]
abbrev concatI_o : Items := [(.tmp 0, .own 3 (.int .i64))]
abbrev concatI_r : List RS := [.one]
abbrev concatI_i1 : Items := [(.tmp 6, .own 3 (.int .i64)), (.tmp 25, .dat (.slice (.slice (.int .i64)))), (.tmp 26, .di), (.tmp 27, .di)]
abbrev concatI_o1 : Outs := [(.exit 2, [(.tmp 6, .own 3 (.int .i64))])]
def concatI_s1 [Lk] : (List Int × List (List Int) × Int × Int × Unit) → Option ((List Int × List (List Int) × Int × Int × Unit) ⊕ (List Int × Unit) ⊕ Unit) := fun (a0, a1, a2, a3, _) =>
 match (ilt a3 a2) with
 | true => match idx a1 a3 with
  | none => none
  | some x0 => match (fits ((dlen a0) + (dlen x0))) with
   | true => some (.inl ((dapp a0 x0), a1, a2, (IntKind.wrap .i64 (a3 + 1)), ()))
   | false => none
 | false => some (.inr (.inl (a0, ())))
abbrev concatI_i0 : Items := [(.tmp 0, .dat (.slice (.slice (.int .i64)))), (.tmp 3, .di), (.tmp 9, .dat (.slice (.slice (.int .i64)))), (.tmp 10, .di), (.tmp 11, .di)]
abbrev concatI_o0 : Outs := [(.exit 0, [(.tmp 0, .dat (.slice (.slice (.int .i64)))), (.tmp 3, .di)])]
def concatI_s0 [Lk] : (List (List Int) × Int × List (List Int) × Int × Int × Unit) → Option ((List (List Int) × Int × List (List Int) × Int × Int × Unit) ⊕ (List (List Int) × Int × Unit) ⊕ Unit) := fun (a0, a1, a2, a3, a4, _) =>
 match (ilt a4 a3) with
 | true => match idx a2 a4 with
  | none => none
  | some x0 => match (ilt (IntKind.wrap .i64 (a1 + (dlen x0))) 0) with
   | true => none
   | false => some (.inl (a0, (IntKind.wrap .i64 (a1 + (dlen x0))), a2, a3, (IntKind.wrap .i64 (a4 + 1)), ()))
 | false => some (.inr (.inl (a0, a1, ())))
def concatI_d [Lk] : (List (List Int) × Unit) → Option ((List Int × Unit)) := fun (a0, _) =>
 match iterL concatI_s0 many (a0, 0, a0, (dlen a0), 0, ()) with
 | none => none
 | some r => match r with
  | .inl (o0, o1, _) => match growI (o1, ()) with
   | none => none
   | some (y2, _) => match iterL concatI_s1 many (y2, o0, (dlen o0), 0, ()) with
    | none => none
    | some r => match r with
     | .inl (o3, _) => some (o3, ())
     | .inr _ => none
  | .inr _ => none
def concatI [Lk] := fun v => Lk.f (concatI_d v)
theorem concatI_eq v : concatI v = concatI_d v := lock_eq _
-- slices.IndexFunc[[]int,int]
abbrev idxFuncI_odd_i : Items := [(.tmp 0, .dat (.slice (.int .i64))), (.tmp 1, .clo 149 [])]
abbrev idxFuncI_odd_o : Items := [(.tmp 0, .di)]
abbrev idxFuncI_odd_r : List RS := [.one]
abbrev idxFuncI_odd_i0 : Items := [(.tmp 0, .dat (.slice (.int .i64))), (.tmp 1, .clo 149 []), (.tmp 7, .di), (.tmp 8, .di)]
abbrev idxFuncI_odd_o0 : Outs := [(.ret, [(.tmp 4, .di)]), (.exit 0, [])]
def idxFuncI_odd_s0 [Lk] : (List Int × Int × Int × Unit) → Option ((List Int × Int × Int × Unit) ⊕ (Int × Unit) ⊕ (Unit) ⊕ Unit) := fun (a0, a1, a2, _) =>
 match (ilt a2 a1) with
 | true => match idx a0 a2 with
  | none => none
  | some x0 => match (ilt x0 0) with
   | true => some (.inr (.inl (a2, ())))
   | false => match (ilt 10000 x0) with
    | true => some (.inr (.inl (a2, ())))
    | false => some (.inl (a0, a1, (IntKind.wrap .i64 (a2 + 1)), ()))
 | false => some (.inr (.inr (.inl ())))
def idxFuncI_odd_d [Lk] : (List Int × Unit) → Option ((Int × Unit)) := fun (a0, _) =>
 match iterL idxFuncI_odd_s0 many (a0, (dlen a0), 0, ()) with
 | none => none
 | some r => match r with
  | .inl (o0, _) => some (o0, ())
  | .inr r => match r with
   | .inl _ => some ((-1 : Int), ())
   | .inr _ => none
def idxFuncI_odd [Lk] := fun v => Lk.f (idxFuncI_odd_d v)
theorem idxFuncI_odd_eq v : idxFuncI_odd v = idxFuncI_odd_d v := lock_eq _
-- slices.ContainsFunc[[]int,int]
abbrev contFuncI_odd_i : Items := [(.tmp 0, .dat (.slice (.int .i64))), (.tmp 1, .clo 149 [])]
abbrev contFuncI_odd_o : Items := [(.tmp 0, .dat .bool)]
abbrev contFuncI_odd_r : List RS := [.one]
def contFuncI_odd_d [Lk] : (List Int × Unit) → Option ((Bool × Unit)) := fun (a0, _) =>
 match idxFuncI_odd (a0, ()) with
 | none => none
 | some (y0, _) => some ((ile 0 y0), ())
def contFuncI_odd [Lk] := fun v => Lk.f (contFuncI_odd_d v)
theorem contFuncI_odd_eq v : contFuncI_odd v = contFuncI_odd_d v := lock_eq _
-- archipelago/ring.once[int]
abbrev once_i : Items := [(.tmp 0, .dat (.slice (.int .i64)))]
abbrev once_o : Items := [(.tmp 0, .dat .bool)]
abbrev once_r : List RS := [.one]
abbrev once_i0 : Items := [(.tmp 0, .dat (.slice (.int .i64))), (.tmp 3, .map (.int .i64) (.int .i64)), (.tmp 7, .dat (.slice (.int .i64))), (.tmp 8, .di), (.tmp 9, .di)]
abbrev once_o0 : Outs := [(.exit 0, [(.tmp 0, .dat (.slice (.int .i64))), (.tmp 3, .map (.int .i64) (.int .i64))])]
def once_s0 [Lk] : (List Int × List (Int × Int) × List Int × Int × Int × Unit) → Option ((List Int × List (Int × Int) × List Int × Int × Int × Unit) ⊕ (List Int × List (Int × Int) × Unit) ⊕ Unit) := fun (a0, a1, a2, a3, a4, _) =>
 match (ilt a4 a3) with
 | true => match idx a2 a4 with
  | none => none
  | some x0 => some (.inl (a0, (storeM a1 x0 (IntKind.wrap .i64 (((lookupM a1 x0).getD 0) + 1))), a2, a3, (IntKind.wrap .i64 (a4 + 1)), ()))
 | false => some (.inr (.inl (a0, a1, ())))
def once_d [Lk] : (List Int × Unit) → Option ((Bool × Unit)) := fun (a0, _) =>
 match iterL once_s0 many (a0, ([] : List (Int × Int)), a0, (dlen a0), 0, ()) with
 | none => none
 | some r => match r with
  | .inl (o0, o1, _) => some ((ieq (dlen o1) (dlen o0)), ())
  | .inr _ => none
def once [Lk] := fun v => Lk.f (once_d v)
theorem once_eq v : once v = once_d v := lock_eq _
-- archipelago/ring.Right
abbrev rright_i : Items := [(.tmp 0, .dat (.slice (.int .i64)))]
abbrev rright_o : Items := [(.tmp 0, .dat .bool)]
abbrev rright_r : List RS := [.one]
def rright_d [Lk] : (List Int × Unit) → Option ((Bool × Unit)) := fun (a0, _) =>
 match (ilt 1000 (dlen a0)) with
 | true => some (false, ())
 | false => match contFuncI_odd (a0, ()) with
  | none => none
  | some (y0, _) => match (!y0) with
   | true => match once (a0, ()) with
    | none => none
    | some (y1, _) => some (y1, ())
   | false => some (false, ())
def rright [Lk] := fun v => Lk.f (rright_d v)
theorem rright_eq v : rright v = rright_d v := lock_eq _
-- archipelago/ring.turned
abbrev turned_i : Items := [(.tmp 0, .dat (.slice (.int .i64))), (.tmp 1, .di)]
abbrev turned_o : Items := [(.tmp 0, .own 3 (.int .i64))]
abbrev turned_r : List RS := [.one]
def turned_d [Lk] : (List Int × Int × Unit) → Option ((List Int × Unit)) := fun (a0, a1, _) =>
 match subl a0 a1 (dlen a0) with
 | none => none
 | some x0 => match subl a0 0 a1 with
  | none => none
  | some x1 => match concatI (([x0, x1] : List (List Int)), ()) with
   | none => none
   | some (y2, _) => some (y2, ())
def turned [Lk] := fun v => Lk.f (turned_d v)
theorem turned_eq v : turned v = turned_d v := lock_eq _
-- archipelago/ring.places
abbrev places_i : Items := [(.tmp 0, .dat (.slice (.int .i64))), (.tmp 1, .dat (.slice (.int .i64)))]
abbrev places_o : Items := [(.tmp 0, .own 3 (.int .i64)), (.tmp 1, .dat .bool)]
abbrev places_r : List RS := [.one, .one]
abbrev places_i0 : Items := [(.tmp 0, .dat (.slice (.int .i64))), (.tmp 6, .own 3 (.int .i64)), (.tmp 12, .dat (.slice (.int .i64))), (.tmp 13, .di), (.tmp 14, .di)]
abbrev places_o0 : Outs := [(.exit 0, [(.tmp 6, .own 3 (.int .i64))])]
def places_s0 [Lk] : (List Int × List Int × List Int × Int × Int × Unit) → Option ((List Int × List Int × List Int × Int × Int × Unit) ⊕ (List Int × Unit) ⊕ Unit) := fun (a0, a1, a2, a3, a4, _) =>
 match (ilt a4 a3) with
 | true => match idx a2 a4 with
  | none => none
  | some x0 => match indexI (a0, x0, ()) with
   | none => none
   | some (y1, _) => match (fits ((dlen a1) + (dlen ([y1] : List (Int))))) with
    | true => some (.inl (a0, (dapp a1 ([y1] : List (Int))), a2, a3, (IntKind.wrap .i64 (a4 + 1)), ()))
    | false => none
 | false => some (.inr (.inl (a1, ())))
def places_d [Lk] : (List Int × List Int × Unit) → Option ((List Int × Bool × Unit)) := fun (a0, a1, _) =>
 match rright (a0, ()) with
 | none => none
 | some (y0, _) => match (!y0) with
  | true => some (([] : List (Int)), false, ())
  | false => match iterL places_s0 many (a0, ([] : List (Int)), a1, (dlen a1), 0, ()) with
   | none => none
   | some r => match r with
    | .inl (o1, _) => match containsI (o1, (-1 : Int), ()) with
     | none => none
     | some (y2, _) => some (o1, (!y2), ())
    | .inr _ => none
def places [Lk] := fun v => Lk.f (places_d v)
theorem places_eq v : places v = places_d v := lock_eq _
-- archipelago/ring.From
abbrev rfrom_i : Items := [(.tmp 0, .dat (.slice (.int .i64))), (.tmp 1, .di)]
abbrev rfrom_o : Items := [(.tmp 0, .own 3 (.int .i64)), (.tmp 1, .dat .bool)]
abbrev rfrom_r : List RS := [.one, .one]
def rfrom_d [Lk] : (List Int × Int × Unit) → Option ((List Int × Bool × Unit)) := fun (a0, a1, _) =>
 match places (a0, ([a1] : List (Int)), ()) with
 | none => none
 | some (y0, y1, _) => match (!y1) with
  | true => some (([] : List (Int)), false, ())
  | false => match idx y0 0 with
   | none => none
   | some x2 => match turned (a0, (dget y0 0 0), ()) with
    | none => none
    | some (y3, _) => some (y3, true, ())
def rfrom [Lk] := fun v => Lk.f (rfrom_d v)
theorem rfrom_eq v : rfrom v = rfrom_d v := lock_eq _
-- archipelago/ring.Plain
abbrev rplain_i : Items := [(.tmp 0, .dat (.slice (.int .i64)))]
abbrev rplain_o : Items := [(.tmp 0, .own 3 (.int .i64))]
abbrev rplain_r : List RS := [.one]
def rplain_d [Lk] : (List Int × Unit) → Option ((List Int × Unit)) := fun (a0, _) =>
 match rright (a0, ()) with
 | none => none
 | some (y0, _) => match (!y0) with
  | true => some (([] : List (Int)), ())
  | false => match (ieq (dlen a0) 0) with
   | true => some (([] : List (Int)), ())
   | false => match minI (a0, ()) with
    | none => none
    | some (y1, _) => match indexI (a0, y1, ()) with
     | none => none
     | some (y2, _) => match turned (a0, y2, ()) with
      | none => none
      | some (y3, _) => some (y3, ())
def rplain [Lk] := fun v => Lk.f (rplain_d v)
theorem rplain_eq v : rplain v = rplain_d v := lock_eq _
-- slices.IndexFunc[[][]int,[]int]
abbrev idxFuncL_place_i : Items := [(.tmp 0, .dat (.slice (.slice (.int .i64)))), (.cap 1 0, .box 1), (.cell 0 0, .di), (.tmp 1, .clo 160 [(0, 0)])]
abbrev idxFuncL_place_o : Items := [(.obj 0, .box 1), (.cell 0 0, .di), (.tmp 0, .di)]
abbrev idxFuncL_place_r : List RS := [.one]
abbrev idxFuncL_place_i0 : Items := [(.obj 0, .box 1), (.cell 0 0, .di), (.tmp 0, .dat (.slice (.slice (.int .i64)))), (.tmp 1, .clo 160 [(0, 0)]), (.tmp 7, .di), (.tmp 8, .di)]
abbrev idxFuncL_place_o0 : Outs := [(.ret, [(.obj 0, .box 1), (.cell 0 0, .di), (.tmp 4, .di)]), (.exit 0, [(.obj 0, .box 1), (.cell 0 0, .di)])]
def idxFuncL_place_s0 [Lk] : (Int × List (List Int) × Int × Int × Unit) → Option ((Int × List (List Int) × Int × Int × Unit) ⊕ (Int × Int × Unit) ⊕ (Int × Unit) ⊕ Unit) := fun (a0, a1, a2, a3, _) =>
 match (ilt a3 a2) with
 | true => match idx a1 a3 with
  | none => none
  | some x0 => match containsI (x0, a0, ()) with
   | none => none
   | some (y1, _) => match y1 with
    | true => some (.inr (.inl (a0, a3, ())))
    | false => some (.inl (a0, a1, a2, (IntKind.wrap .i64 (a3 + 1)), ()))
 | false => some (.inr (.inr (.inl (a0, ()))))
def idxFuncL_place_d [Lk] : (List (List Int) × Int × Unit) → Option ((Int × Int × Unit)) := fun (a0, a1, _) =>
 match iterL idxFuncL_place_s0 many (a1, a0, (dlen a0), 0, ()) with
 | none => none
 | some r => match r with
  | .inl (o0, o1, _) => some (o0, o1, ())
  | .inr r => match r with
   | .inl (o2, _) => some (o2, (-1 : Int), ())
   | .inr _ => none
def idxFuncL_place [Lk] := fun v => Lk.f (idxFuncL_place_d v)
theorem idxFuncL_place_eq v : idxFuncL_place v = idxFuncL_place_d v := lock_eq _
-- archipelago/tour.place
abbrev tplace_i : Items := [(.tmp 0, .dat (.prod (.int .i64) (.prod (.slice (.slice (.int .i64))) .unit))), (.tmp 1, .di)]
abbrev tplace_o : Items := [(.tmp 0, .di)]
abbrev tplace_r : List RS := [.one]
def tplace_d [Lk] : ((Int × (List (List Int)) × Unit) × Int × Unit) → Option ((Int × Unit)) := fun (a0, a1, _) =>
 match idxFuncL_place (a0.2.1, a1, ()) with
 | none => none
 | some (y0, y1, _) => some (y1, ())
def tplace [Lk] := fun v => Lk.f (tplace_d v)
theorem tplace_eq v : tplace v = tplace_d v := lock_eq _
-- archipelago/tour.goes
abbrev goes_i : Items := [(.tmp 0, .di), (.tmp 1, .dat (.slice (.int .i64)))]
abbrev goes_o : Items := [(.tmp 0, .dat .bool)]
abbrev goes_r : List RS := [.one]
abbrev goes_i0 : Items := [(.tmp 0, .di), (.tmp 5, .box 3), (.cell 0 0, .own 3 (.int .i64)), (.cell 0 1, .map (.int .i64) (.int .i64)), (.cell 0 2, .map (.int .i64) (.int .i64)), (.tmp 30, .dat (.slice (.int .i64))), (.tmp 31, .di), (.tmp 32, .di)]
abbrev goes_o0 : Outs := [(.ret, [(.tmp 4, .dat .bool)]), (.exit 0, [(.tmp 5, .box 3), (.cell 0 0, .own 3 (.int .i64)), (.cell 0 1, .map (.int .i64) (.int .i64)), (.cell 0 2, .map (.int .i64) (.int .i64))])]
def goes_s0 [Lk] : (Int × List Int × List (Int × Int) × List (Int × Int) × List Int × Int × Int × Unit) → Option ((Int × List Int × List (Int × Int) × List (Int × Int) × List Int × Int × Int × Unit) ⊕ (Bool × Unit) ⊕ (List Int × List (Int × Int) × List (Int × Int) × Unit) ⊕ Unit) := fun (a0, a1, a2, a3, a4, a5, a6, _) =>
 match (ilt a6 a5) with
 | true => match idx a4 a6 with
  | none => none
  | some x0 => match ttoken (a0, x0, ()) with
   | none => none
   | some (y1, y2, y3, y4, _) => match (!y4) with
    | true => some (.inr (.inl (false, ())))
    | false => match y3 with
     | true => match idx a1 (IntKind.wrap .i64 ((dlen a1) - 1)) with
      | none => none
      | some x5 => match (!(ieq (dget a1 (dnat (IntKind.wrap .i64 ((dlen a1) - 1))) 0) y1)) with
       | true => some (.inr (.inl (false, ())))
       | false => match (ilt 0 (IntKind.wrap .i64 ((dlen a1) - 1))) with
        | true => match idx a1 (IntKind.wrap .i64 ((IntKind.wrap .i64 ((dlen a1) - 1)) - 1)) with
         | none => none
         | some x6 => match (ieq (dget a1 (dnat (IntKind.wrap .i64 ((IntKind.wrap .i64 ((dlen a1) - 1)) - 1))) 0) y2) with
          | true => match subl a1 0 (IntKind.wrap .i64 ((dlen a1) - 1)) with
           | none => none
           | some x7 => match (!y3) with
            | true => match idx (dcut 0 (dnat (dlen x7)) a1) (IntKind.wrap .i64 ((((dnat (dlen x7)) : Nat) : Int) - 1)) with
             | none => none
             | some x8 => match (!(ieq (dget a1 (0 + (dnat (IntKind.wrap .i64 ((((dnat (dlen x7)) : Nat) : Int) - 1)))) 0) y1)) with
              | true => some (.inr (.inl (false, ())))
              | false => match (!y3) with
               | true => some (.inl (a0, (dtake (dnat (dlen x7)) a1), a2, (storeM a3 y1 (IntKind.wrap .i64 (((lookupM a3 y1).getD 0) + 1))), a4, a5, (IntKind.wrap .i64 (a6 + 1)), ()))
               | false => some (.inl (a0, (dtake (dnat (dlen x7)) a1), a2, a3, a4, a5, (IntKind.wrap .i64 (a6 + 1)), ()))
            | false => match (!y3) with
             | true => some (.inl (a0, (dtake (dnat (dlen x7)) a1), a2, (storeM a3 y1 (IntKind.wrap .i64 (((lookupM a3 y1).getD 0) + 1))), a4, a5, (IntKind.wrap .i64 (a6 + 1)), ()))
             | false => some (.inl (a0, (dtake (dnat (dlen x7)) a1), a2, a3, a4, a5, (IntKind.wrap .i64 (a6 + 1)), ()))
          | false => match (ilt 0 ((lookupM a2 y2).getD 0)) with
           | true => some (.inr (.inl (false, ())))
           | false => match (fits ((dlen a1) + (dlen ([y2] : List (Int))))) with
            | true => match (!y3) with
             | true => match idx (dapp a1 ([y2] : List (Int))) (IntKind.wrap .i64 ((dlen (dapp a1 ([y2] : List (Int)))) - 1)) with
              | none => none
              | some x9 => match (!(ieq (dget (dapp a1 ([y2] : List (Int))) (dnat (IntKind.wrap .i64 ((dlen (dapp a1 ([y2] : List (Int)))) - 1))) 0) y1)) with
               | true => some (.inr (.inl (false, ())))
               | false => match (!y3) with
                | true => some (.inl (a0, (dapp a1 ([y2] : List (Int))), (storeM a2 y2 (IntKind.wrap .i64 (((lookupM a2 y2).getD 0) + 1))), (storeM a3 y1 (IntKind.wrap .i64 (((lookupM a3 y1).getD 0) + 1))), a4, a5, (IntKind.wrap .i64 (a6 + 1)), ()))
                | false => some (.inl (a0, (dapp a1 ([y2] : List (Int))), (storeM a2 y2 (IntKind.wrap .i64 (((lookupM a2 y2).getD 0) + 1))), a3, a4, a5, (IntKind.wrap .i64 (a6 + 1)), ()))
             | false => match (!y3) with
              | true => some (.inl (a0, (dapp a1 ([y2] : List (Int))), (storeM a2 y2 (IntKind.wrap .i64 (((lookupM a2 y2).getD 0) + 1))), (storeM a3 y1 (IntKind.wrap .i64 (((lookupM a3 y1).getD 0) + 1))), a4, a5, (IntKind.wrap .i64 (a6 + 1)), ()))
              | false => some (.inl (a0, (dapp a1 ([y2] : List (Int))), (storeM a2 y2 (IntKind.wrap .i64 (((lookupM a2 y2).getD 0) + 1))), a3, a4, a5, (IntKind.wrap .i64 (a6 + 1)), ()))
            | false => none
        | false => match (ilt 0 ((lookupM a2 y2).getD 0)) with
         | true => some (.inr (.inl (false, ())))
         | false => match (fits ((dlen a1) + (dlen ([y2] : List (Int))))) with
          | true => match (!y3) with
           | true => match idx (dapp a1 ([y2] : List (Int))) (IntKind.wrap .i64 ((dlen (dapp a1 ([y2] : List (Int)))) - 1)) with
            | none => none
            | some x10 => match (!(ieq (dget (dapp a1 ([y2] : List (Int))) (dnat (IntKind.wrap .i64 ((dlen (dapp a1 ([y2] : List (Int)))) - 1))) 0) y1)) with
             | true => some (.inr (.inl (false, ())))
             | false => match (!y3) with
              | true => some (.inl (a0, (dapp a1 ([y2] : List (Int))), (storeM a2 y2 (IntKind.wrap .i64 (((lookupM a2 y2).getD 0) + 1))), (storeM a3 y1 (IntKind.wrap .i64 (((lookupM a3 y1).getD 0) + 1))), a4, a5, (IntKind.wrap .i64 (a6 + 1)), ()))
              | false => some (.inl (a0, (dapp a1 ([y2] : List (Int))), (storeM a2 y2 (IntKind.wrap .i64 (((lookupM a2 y2).getD 0) + 1))), a3, a4, a5, (IntKind.wrap .i64 (a6 + 1)), ()))
           | false => match (!y3) with
            | true => some (.inl (a0, (dapp a1 ([y2] : List (Int))), (storeM a2 y2 (IntKind.wrap .i64 (((lookupM a2 y2).getD 0) + 1))), (storeM a3 y1 (IntKind.wrap .i64 (((lookupM a3 y1).getD 0) + 1))), a4, a5, (IntKind.wrap .i64 (a6 + 1)), ()))
            | false => some (.inl (a0, (dapp a1 ([y2] : List (Int))), (storeM a2 y2 (IntKind.wrap .i64 (((lookupM a2 y2).getD 0) + 1))), a3, a4, a5, (IntKind.wrap .i64 (a6 + 1)), ()))
          | false => none
     | false => match (!y3) with
      | true => match idx a1 (IntKind.wrap .i64 ((dlen a1) - 1)) with
       | none => none
       | some x11 => match (!(ieq (dget a1 (dnat (IntKind.wrap .i64 ((dlen a1) - 1))) 0) y1)) with
        | true => some (.inr (.inl (false, ())))
        | false => match (!y3) with
         | true => some (.inl (a0, a1, a2, (storeM a3 y1 (IntKind.wrap .i64 (((lookupM a3 y1).getD 0) + 1))), a4, a5, (IntKind.wrap .i64 (a6 + 1)), ()))
         | false => some (.inl (a0, a1, a2, a3, a4, a5, (IntKind.wrap .i64 (a6 + 1)), ()))
      | false => match (!y3) with
       | true => some (.inl (a0, a1, a2, (storeM a3 y1 (IntKind.wrap .i64 (((lookupM a3 y1).getD 0) + 1))), a4, a5, (IntKind.wrap .i64 (a6 + 1)), ()))
       | false => some (.inl (a0, a1, a2, a3, a4, a5, (IntKind.wrap .i64 (a6 + 1)), ()))
 | false => some (.inr (.inr (.inl (a1, a2, a3, ()))))
def goes_d [Lk] : (Int × List Int × Unit) → Option ((Bool × Unit)) := fun (a0, a1, _) =>
 match idx a1 0 with
 | none => none
 | some x0 => match tin (a0, x0, ()) with
  | none => none
  | some (y1, _) => match (!y1) with
   | true => some (false, ())
   | false => match idx a1 0 with
    | none => none
    | some x2 => match idx a1 0 with
     | none => none
     | some x3 => match iterL goes_s0 many (a0, ([x2] : List (Int)), (storeM ([] : List (Int × Int)) x3 1), ([] : List (Int × Int)), a1, (dlen a1), 0, ()) with
      | none => none
      | some r => match r with
       | .inl (o4, _) => some (o4, ())
       | .inr r => match r with
        | .inl (o5, o6, o7, _) => match (ieq (dlen o5) 1) with
         | true => some ((ieq (dlen o7) (dlen o6)), ())
         | false => some (false, ())
        | .inr _ => none
def goes [Lk] := fun v => Lk.f (goes_d v)
theorem goes_eq v : goes v = goes_d v := lock_eq _
-- archipelago/tour.Right
abbrev tright_i : Items := [(.tmp 0, .dat (.prod (.int .i64) (.prod (.slice (.slice (.int .i64))) .unit)))]
abbrev tright_o : Items := [(.tmp 0, .dat .bool)]
abbrev tright_r : List RS := [.one]
abbrev tright_i2 : Items := [(.tmp 3, .map (.int .i64) (.int .i64)), (.tmp 78, .di), (.tmp 79, .di)]
abbrev tright_o2 : Outs := [(.ret, [(.tmp 2, .dat .bool)]), (.exit 4, [])]
def tright_s2 [Lk] : (List (Int × Int) × Int × Int × Unit) → Option ((List (Int × Int) × Int × Int × Unit) ⊕ (Bool × Unit) ⊕ (Unit) ⊕ Unit) := fun (a0, a1, a2, _) =>
 match (ilt a2 a1) with
 | true => match (ieq ((lookupM a0 a2).getD 0) 0) with
  | true => some (.inr (.inl (false, ())))
  | false => some (.inl (a0, a1, (IntKind.wrap .i64 (a2 + 1)), ()))
 | false => some (.inr (.inr (.inl ())))
abbrev tright_i1 : Items := [(.tmp 1, .box 2), (.cell 0 0, .di), (.cell 0 1, .dat (.slice (.slice (.int .i64)))), (.tmp 3, .map (.int .i64) (.int .i64)), (.tmp 4, .di), (.tmp 16, .dat (.slice (.slice (.int .i64)))), (.tmp 17, .di), (.tmp 18, .di), (.tmp 26, .dat (.slice (.int .i64))), (.tmp 28, .di), (.tmp 29, .di), (.tmp 30, .dat .bool), (.tmp 33, .dat (.slice (.int .i64))), (.tmp 34, .dat .bool), (.tmp 35, .dat .bool), (.tmp 38, .dat (.slice (.int .i64))), (.tmp 39, .di), (.tmp 40, .dat (.slice (.int .i64))), (.tmp 42, .di), (.tmp 43, .dat .bool), (.tmp 46, .ptr' 0 0), (.tmp 47, .di), (.tmp 48, .dat (.slice (.int .i64))), (.tmp 49, .dat .bool), (.tmp 50, .dat .bool), (.tmp 55, .dat (.slice (.int .i64))), (.tmp 56, .di), (.tmp 57, .di)]
abbrev tright_o1 : Outs := [(.ret, [(.tmp 2, .dat .bool)]), (.exit 2, [(.tmp 1, .box 2), (.cell 0 0, .di), (.cell 0 1, .dat (.slice (.slice (.int .i64)))), (.tmp 3, .map (.int .i64) (.int .i64)), (.tmp 4, .di), (.tmp 16, .dat (.slice (.slice (.int .i64)))), (.tmp 17, .di), (.tmp 18, .di), (.tmp 26, .dat (.slice (.int .i64))), (.tmp 28, .di), (.tmp 29, .di), (.tmp 30, .dat .bool), (.tmp 33, .dat (.slice (.int .i64))), (.tmp 34, .dat .bool), (.tmp 35, .dat .bool), (.tmp 38, .dat (.slice (.int .i64))), (.tmp 39, .di), (.tmp 40, .dat (.slice (.int .i64))), (.tmp 42, .di), (.tmp 43, .dat .bool), (.tmp 46, .ptr' 0 0), (.tmp 47, .di), (.tmp 48, .dat (.slice (.int .i64))), (.tmp 49, .dat .bool), (.tmp 50, .dat .bool)])]
def tright_s1 [Lk] : (Int × List (List Int) × List (Int × Int) × Int × List (List Int) × Int × Int × List Int × Int × Int × Bool × List Int × Bool × Bool × List Int × Int × List Int × Int × Bool × Int × List Int × Bool × Bool × List Int × Int × Int × Unit) → Option ((Int × List (List Int) × List (Int × Int) × Int × List (List Int) × Int × Int × List Int × Int × Int × Bool × List Int × Bool × Bool × List Int × Int × List Int × Int × Bool × Int × List Int × Bool × Bool × List Int × Int × Int × Unit) ⊕ (Bool × Unit) ⊕ (Int × List (List Int) × List (Int × Int) × Int × List (List Int) × Int × Int × List Int × Int × Int × Bool × List Int × Bool × Bool × List Int × Int × List Int × Int × Bool × Int × List Int × Bool × Bool × Unit) ⊕ Unit) := fun (a0, a1, a2, a3, a4, a5, a6, a7, a8, a9, a10, a11, a12, a13, a14, a15, a16, a17, a18, a19, a20, a21, a22, a23, a24, a25, _) =>
 match (ilt a25 a24) with
 | true => match idx a23 a25 with
  | none => none
  | some x0 => match (ilt x0 a0) with
   | true => match (ilt 0 ((lookupM a2 x0).getD 0)) with
    | true => some (.inr (.inl (false, ())))
    | false => some (.inl (a0, a1, (storeM a2 x0 (IntKind.wrap .i64 (((lookupM a2 x0).getD 0) + 1))), a3, a4, a5, a6, a7, a8, a9, a10, a11, a12, a13, a14, a15, a16, a17, a18, a19, a20, a21, a22, a23, a24, (IntKind.wrap .i64 (a25 + 1)), ()))
   | false => some (.inl (a0, a1, (storeM a2 x0 (IntKind.wrap .i64 (((lookupM a2 x0).getD 0) + 1))), a3, a4, a5, a6, a7, a8, a9, a10, a11, a12, a13, a14, a15, a16, a17, a18, a19, a20, a21, a22, a23, a24, (IntKind.wrap .i64 (a25 + 1)), ()))
 | false => some (.inr (.inr (.inl (a0, a1, a2, a3, a4, a5, a6, a7, a8, a9, a10, a11, a12, a13, a14, a15, a16, a17, a18, a19, a20, a21, a22, ()))))
abbrev tright_i0 : Items := [(.tmp 1, .box 2), (.cell 0 0, .di), (.cell 0 1, .dat (.slice (.slice (.int .i64)))), (.tmp 3, .map (.int .i64) (.int .i64)), (.tmp 4, .di), (.tmp 16, .dat (.slice (.slice (.int .i64)))), (.tmp 17, .di), (.tmp 18, .di)]
abbrev tright_o0 : Outs := [(.ret, [(.tmp 2, .dat .bool)]), (.exit 0, [(.tmp 1, .box 2), (.cell 0 0, .di), (.cell 0 1, .dat (.slice (.slice (.int .i64)))), (.tmp 3, .map (.int .i64) (.int .i64))])]
def tright_s0 [Lk] : (Int × List (List Int) × List (Int × Int) × Int × List (List Int) × Int × Int × Unit) → Option ((Int × List (List Int) × List (Int × Int) × Int × List (List Int) × Int × Int × Unit) ⊕ (Bool × Unit) ⊕ (Int × List (List Int) × List (Int × Int) × Unit) ⊕ Unit) := fun (a0, a1, a2, a3, a4, a5, a6, _) =>
 match (ilt a6 a5) with
 | true => match idx a4 a6 with
  | none => none
  | some x0 => match (ieq (dlen x0) 0) with
   | true => some (.inr (.inl (false, ())))
   | false => match idx x0 0 with
    | none => none
    | some x1 => match (ile x1 a3) with
     | true => some (.inr (.inl (false, ())))
     | false => match rright (x0, ()) with
      | none => none
      | some (y2, _) => match (!y2) with
       | true => some (.inr (.inl (false, ())))
       | false => match minI (x0, ()) with
        | none => none
        | some (y3, _) => match idx x0 0 with
         | none => none
         | some x4 => match (!(ieq y3 x4)) with
          | true => some (.inr (.inl (false, ())))
          | false => match goes (a0, x0, ()) with
           | none => none
           | some (y5, _) => match (!y5) with
            | true => some (.inr (.inl (false, ())))
            | false => match idx x0 0 with
             | none => none
             | some x6 => match iterL tright_s1 many (a0, a1, a2, x6, a4, a5, a6, x0, x1, a3, (ile x1 a3), x0, y2, (!y2), x0, y3, x0, x4, (!(ieq y3 x4)), a0, x0, y5, (!y5), x0, (dlen x0), 0, ()) with
              | none => none
              | some r => match r with
               | .inl (o7, _) => some (.inr (.inl (o7, ())))
               | .inr r => match r with
                | .inl (o8, o9, o10, o11, o12, o13, o14, o15, o16, o17, o18, o19, o20, o21, o22, o23, o24, o25, o26, o27, o28, o29, o30, _) => some (.inl (o8, o9, o10, o11, o12, o13, (IntKind.wrap .i64 (o14 + 1)), ()))
                | .inr _ => none
 | false => some (.inr (.inr (.inl (a0, a1, a2, ()))))
def tright_d [Lk] : ((Int × (List (List Int)) × Unit) × Unit) → Option ((Bool × Unit)) := fun (a0, _) =>
 match tsized (a0.1, ()) with
 | none => none
 | some (y0, _) => match (!y0) with
  | true => some (false, ())
  | false => match iterL tright_s0 many (a0.1, a0.2.1, ([] : List (Int × Int)), (-1 : Int), a0.2.1, (dlen a0.2.1), 0, ()) with
   | none => none
   | some r => match r with
    | .inl (o1, _) => some (o1, ())
    | .inr r => match r with
     | .inl (o2, o3, o4, _) => match iterL tright_s2 many (o4, o2, 0, ()) with
      | none => none
      | some r => match r with
       | .inl (o5, _) => some (o5, ())
       | .inr r => match r with
        | .inl _ => some (true, ())
        | .inr _ => none
     | .inr _ => none
def tright [Lk] := fun v => Lk.f (tright_d v)
theorem tright_eq v : tright v = tright_d v := lock_eq _
-- archipelago/tour.asked
abbrev asked_i : Items := [(.tmp 0, .dat (.prod (.int .i64) (.prod (.slice (.slice (.int .i64))) .unit))), (.tmp 1, .di), (.tmp 2, .di)]
abbrev asked_o : Items := [(.tmp 0, .di)]
abbrev asked_r : List RS := [.one]
def asked_d [Lk] : ((Int × (List (List Int)) × Unit) × Int × Int × Unit) → Option ((Int × Unit)) := fun (a0, a1, a2, _) =>
 match tright ((a0.1, (a0.2.1, ())), ()) with
 | none => none
 | some (y0, _) => match (!y0) with
  | true => some (1, ())
  | false => match tin (a0.1, a1, ()) with
   | none => none
   | some (y1, _) => match (!y1) with
    | true => some (10, ())
    | false => match tin (a0.1, a2, ()) with
     | none => none
     | some (y2, _) => match (!y2) with
      | true => some (10, ())
      | false => some (0, ())
def asked [Lk] := fun v => Lk.f (asked_d v)
theorem asked_eq v : asked v = asked_d v := lock_eq _
-- cmp.isNaN[int]
abbrev nanI_i : Items := [(.tmp 0, .di)]
abbrev nanI_o : Items := [(.tmp 0, .dat .bool)]
abbrev nanI_r : List RS := [.one]
def nanI_d [Lk] : (Int × Unit) → Option ((Bool × Unit)) := fun (a0, _) =>
 some ((!(ieq a0 a0)), ())
def nanI [Lk] := fun v => Lk.f (nanI_d v)
theorem nanI_eq v : nanI v = nanI_d v := lock_eq _
-- cmp.Compare[int]
abbrev compareI_i : Items := [(.tmp 0, .di), (.tmp 1, .di)]
abbrev compareI_o : Items := [(.tmp 0, .di)]
abbrev compareI_r : List RS := [.one]
def compareI_d [Lk] : (Int × Int × Unit) → Option ((Int × Unit)) := fun (a0, a1, _) =>
 match nanI (a0, ()) with
 | none => none
 | some (y0, _) => match nanI (a1, ()) with
  | none => none
  | some (y1, _) => match y0 with
   | true => match y1 with
    | true => some (0, ())
    | false => some ((-1 : Int), ())
   | false => match y1 with
    | true => some (1, ())
    | false => match (ilt a0 a1) with
     | true => some ((-1 : Int), ())
     | false => match (ilt a1 a0) with
      | true => some (1, ())
      | false => some (0, ())
def compareI [Lk] := fun v => Lk.f (compareI_d v)
theorem compareI_eq v : compareI v = compareI_d v := lock_eq _
-- archipelago/tour.with$1
abbrev with1_i : Items := [(.tmp 0, .dat (.slice (.int .i64))), (.tmp 1, .dat (.slice (.int .i64)))]
abbrev with1_o : Items := [(.tmp 0, .di)]
abbrev with1_r : List RS := [.one]
def with1_d [Lk] : (List Int × List Int × Unit) → Option ((Int × Unit)) := fun (a0, a1, _) =>
 match idx a0 0 with
 | none => none
 | some x0 => match idx a1 0 with
  | none => none
  | some x1 => match compareI (x0, x1, ()) with
   | none => none
   | some (y2, _) => some (y2, ())
def with1 [Lk] := fun v => Lk.f (with1_d v)
theorem with1_eq v : with1 v = with1_d v := lock_eq _
-- math/bits.Len64
def lenTab : List Int := [0, 1, 2, 2, 3, 3, 3, 3, 4, 4, 4, 4, 4, 4, 4, 4, 5, 5, 5, 5, 5, 5, 5, 5, 5, 5, 5, 5, 5, 5, 5, 5, 6, 6, 6, 6, 6, 6, 6, 6, 6, 6, 6, 6, 6, 6, 6, 6, 6, 6, 6, 6, 6, 6, 6, 6, 6, 6, 6, 6, 6, 6, 6, 6, 7, 7, 7, 7, 7, 7, 7, 7, 7, 7, 7, 7, 7, 7, 7, 7, 7, 7, 7, 7, 7, 7, 7, 7, 7, 7, 7, 7, 7, 7, 7, 7, 7, 7, 7, 7, 7, 7, 7, 7, 7, 7, 7, 7, 7, 7, 7, 7, 7, 7, 7, 7, 7, 7, 7, 7, 7, 7, 7, 7, 7, 7, 7, 7, 8, 8, 8, 8, 8, 8, 8, 8, 8, 8, 8, 8, 8, 8, 8, 8, 8, 8, 8, 8, 8, 8, 8, 8, 8, 8, 8, 8, 8, 8, 8, 8, 8, 8, 8, 8, 8, 8, 8, 8, 8, 8, 8, 8, 8, 8, 8, 8, 8, 8, 8, 8, 8, 8, 8, 8, 8, 8, 8, 8, 8, 8, 8, 8, 8, 8, 8, 8, 8, 8, 8, 8, 8, 8, 8, 8, 8, 8, 8, 8, 8, 8, 8, 8, 8, 8, 8, 8, 8, 8, 8, 8, 8, 8, 8, 8, 8, 8, 8, 8, 8, 8, 8, 8, 8, 8, 8, 8, 8, 8, 8, 8, 8, 8, 8, 8, 8, 8, 8, 8, 8, 8, 8, 8, 8, 8, 8, 8]
abbrev len64_i : Items := [(.tmp 0, .dat (.int .u64))]
abbrev len64_o : Items := [(.tmp 0, .di)]
abbrev len64_r : List RS := [.one]
def len64_d [Lk] : (Int × Unit) → Option ((Int × Unit)) := fun (a0, _) =>
 match (ile 4294967296 a0) with
 | true => match shr? .u64 a0 32 with
  | none => none
  | some x0 => match (ile 65536 x0) with
   | true => match shr? .u64 x0 16 with
    | none => none
    | some x1 => match (ile 256 x1) with
     | true => match shr? .u64 x1 8 with
      | none => none
      | some x2 => match idx lenTab (IntKind.wrap .u8 x2) with
       | none => none
       | some x3 => some ((IntKind.wrap .i64 ((IntKind.wrap .i64 ((IntKind.wrap .i64 (32 + 16)) + 8)) + (IntKind.wrap .i64 x3))), ())
     | false => match idx lenTab (IntKind.wrap .u8 x1) with
      | none => none
      | some x4 => some ((IntKind.wrap .i64 ((IntKind.wrap .i64 (32 + 16)) + (IntKind.wrap .i64 x4))), ())
   | false => match (ile 256 x0) with
    | true => match shr? .u64 x0 8 with
     | none => none
     | some x5 => match idx lenTab (IntKind.wrap .u8 x5) with
      | none => none
      | some x6 => some ((IntKind.wrap .i64 ((IntKind.wrap .i64 (32 + 8)) + (IntKind.wrap .i64 x6))), ())
    | false => match idx lenTab (IntKind.wrap .u8 x0) with
     | none => none
     | some x7 => some ((IntKind.wrap .i64 (32 + (IntKind.wrap .i64 x7))), ())
 | false => match (ile 65536 a0) with
  | true => match shr? .u64 a0 16 with
   | none => none
   | some x8 => match (ile 256 x8) with
    | true => match shr? .u64 x8 8 with
     | none => none
     | some x9 => match idx lenTab (IntKind.wrap .u8 x9) with
      | none => none
      | some x10 => some ((IntKind.wrap .i64 ((IntKind.wrap .i64 ((IntKind.wrap .i64 (0 + 16)) + 8)) + (IntKind.wrap .i64 x10))), ())
    | false => match idx lenTab (IntKind.wrap .u8 x8) with
     | none => none
     | some x11 => some ((IntKind.wrap .i64 ((IntKind.wrap .i64 (0 + 16)) + (IntKind.wrap .i64 x11))), ())
  | false => match (ile 256 a0) with
   | true => match shr? .u64 a0 8 with
    | none => none
    | some x12 => match idx lenTab (IntKind.wrap .u8 x12) with
     | none => none
     | some x13 => some ((IntKind.wrap .i64 ((IntKind.wrap .i64 (0 + 8)) + (IntKind.wrap .i64 x13))), ())
   | false => match idx lenTab (IntKind.wrap .u8 a0) with
    | none => none
    | some x14 => some ((IntKind.wrap .i64 (0 + (IntKind.wrap .i64 x14))), ())
def len64 [Lk] := fun v => Lk.f (len64_d v)
theorem len64_eq v : len64 v = len64_d v := lock_eq _
-- math/bits.Len
abbrev bitsLen_i : Items := [(.tmp 0, .dat (.int .u64))]
abbrev bitsLen_o : Items := [(.tmp 0, .di)]
abbrev bitsLen_r : List RS := [.one]
def bitsLen_d [Lk] : (Int × Unit) → Option ((Int × Unit)) := fun (a0, _) =>
 match len64 (a0, ()) with
 | none => none
 | some (y0, _) => some (y0, ())
def bitsLen [Lk] := fun v => Lk.f (bitsLen_d v)
theorem bitsLen_eq v : bitsLen v = bitsLen_d v := lock_eq _
-- (*slices.xorshift).Next
abbrev xorNext_i : Items := [(.tmp 0, .box 1), (.cell 0 0, .dat (.int .u64))]
abbrev xorNext_o : Items := [(.obj 0, .box 1), (.cell 0 0, .dat (.int .u64)), (.tmp 0, .dat (.int .u64))]
abbrev xorNext_r : List RS := [.one]
def xorNext_d [Lk] : (Int × Unit) → Option ((Int × Int × Unit)) := fun (a0, _) =>
 match shl? .u64 a0 13 with
 | none => none
 | some x0 => match shr? .u64 (IntKind.wrap .u64 ((BitVec.ofInt (IntKind.bits .u64) a0 ^^^ BitVec.ofInt (IntKind.bits .u64) x0).toNat)) 7 with
  | none => none
  | some x1 => match shl? .u64 (IntKind.wrap .u64 ((BitVec.ofInt (IntKind.bits .u64) (IntKind.wrap .u64 ((BitVec.ofInt (IntKind.bits .u64) a0 ^^^ BitVec.ofInt (IntKind.bits .u64) x0).toNat)) ^^^ BitVec.ofInt (IntKind.bits .u64) x1).toNat)) 17 with
   | none => none
   | some x2 => some ((IntKind.wrap .u64 ((BitVec.ofInt (IntKind.bits .u64) (IntKind.wrap .u64 ((BitVec.ofInt (IntKind.bits .u64) (IntKind.wrap .u64 ((BitVec.ofInt (IntKind.bits .u64) a0 ^^^ BitVec.ofInt (IntKind.bits .u64) x0).toNat)) ^^^ BitVec.ofInt (IntKind.bits .u64) x1).toNat)) ^^^ BitVec.ofInt (IntKind.bits .u64) x2).toNat)), (IntKind.wrap .u64 ((BitVec.ofInt (IntKind.bits .u64) (IntKind.wrap .u64 ((BitVec.ofInt (IntKind.bits .u64) (IntKind.wrap .u64 ((BitVec.ofInt (IntKind.bits .u64) a0 ^^^ BitVec.ofInt (IntKind.bits .u64) x0).toNat)) ^^^ BitVec.ofInt (IntKind.bits .u64) x1).toNat)) ^^^ BitVec.ofInt (IntKind.bits .u64) x2).toNat)), ())
def xorNext [Lk] := fun v => Lk.f (xorNext_d v)
theorem xorNext_eq v : xorNext v = xorNext_d v := lock_eq _
-- slices.nextPowerOfTwo
abbrev nextPow_i : Items := [(.tmp 0, .di)]
abbrev nextPow_o : Items := [(.tmp 0, .dat (.int .u64))]
abbrev nextPow_r : List RS := [.one]
def nextPow_d [Lk] : (Int × Unit) → Option ((Int × Unit)) := fun (a0, _) =>
 match bitsLen ((IntKind.wrap .u64 a0), ()) with
 | none => none
 | some (y0, _) => match shl? .u64 1 y0 with
  | none => none
  | some x1 => some (x1, ())
def nextPow [Lk] := fun v => Lk.f (nextPow_d v)
theorem nextPow_eq v : nextPow v = nextPow_d v := lock_eq _
-- sorts by a compare function, over any type
def insG_s1 [Lk] {α : Type} (z : α) (c : α × α × Unit → Option (Int × Unit)) : (List α × Int × Int × Int × Int × Unit) → Option ((List α × Int × Int × Int × Int × Unit) ⊕ (List α × Int × Int × Int × Unit) ⊕ Unit) := fun (a0, a1, a2, a3, a4, _) =>
 match (ilt a1 a4) with
 | true => match idx a0 a4 with
  | none => none
  | some x0 => match idx a0 (IntKind.wrap .i64 (a4 - 1)) with
   | none => none
   | some x1 => match c ((dget a0 (dnat a4) z), (dget a0 (dnat (IntKind.wrap .i64 (a4 - 1))) z), ()) with
    | none => none
    | some (y2, _) => match (ilt y2 0) with
     | true => match idx a0 (IntKind.wrap .i64 (a4 - 1)) with
      | none => none
      | some x3 => match idx a0 a4 with
       | none => none
       | some x4 => match idx a0 a4 with
        | none => none
        | some x5 => match idx (dset a0 (dnat a4) (dget a0 (dnat (IntKind.wrap .i64 (a4 - 1))) z)) (IntKind.wrap .i64 (a4 - 1)) with
         | none => none
         | some x6 => some (.inl ((dset (dset a0 (dnat a4) (dget a0 (dnat (IntKind.wrap .i64 (a4 - 1))) z)) (dnat (IntKind.wrap .i64 (a4 - 1))) (dget a0 (dnat a4) z)), a1, a2, a3, (IntKind.wrap .i64 (a4 - 1)), ()))
     | false => some (.inr (.inl (a0, a1, a2, a3, ())))
 | false => some (.inr (.inl (a0, a1, a2, a3, ())))
def insG_s0 [Lk] {α : Type} (z : α) (c : α × α × Unit → Option (Int × Unit)) : (List α × Int × Int × Int × Unit) → Option ((List α × Int × Int × Int × Unit) ⊕ (List α × Unit) ⊕ Unit) := fun (a0, a1, a2, a3, _) =>
 match (ilt a3 a2) with
 | true => match iterL (insG_s1 z c) many (a0, a1, a2, a3, a3, ()) with
  | none => none
  | some r => match r with
   | .inl (o0, o1, o2, o3, _) => some (.inl (o0, o1, o2, (IntKind.wrap .i64 (o3 + 1)), ()))
   | .inr _ => none
 | false => some (.inr (.inl (a0, ())))
def insG_d [Lk] {α : Type} (z : α) (c : α × α × Unit → Option (Int × Unit)) : (List α × Int × Int × Unit) → Option ((List α × Unit)) := fun (a0, a1, a2, _) =>
 match iterL (insG_s0 z c) many (a0, a1, a2, (IntKind.wrap .i64 (a1 + 1)), ()) with
 | none => none
 | some r => match r with
  | .inl (o0, _) => some (o0, ())
  | .inr _ => none
def insG [Lk] {α : Type} (z : α) (c : α × α × Unit → Option (Int × Unit)) (v : (List α × Int × Int × Unit)) : Option ((List α × Unit)) := Lk.f ((insG_d z c) v)
theorem insG_eq {α : Type} (z : α) (c : α × α × Unit → Option (Int × Unit)) (v : (List α × Int × Int × Unit)) : (insG z c) v = (insG_d z c) v := lock_eq _
def siftG_s0 [Lk] {α : Type} (z : α) (c : α × α × Unit → Option (Int × Unit)) : (List α × Int × Int × Int × Unit) → Option ((List α × Int × Int × Int × Unit) ⊕ (List α × Unit) ⊕ (List α × Unit) ⊕ Unit) := fun (a0, a1, a2, a3, _) =>
 match (ile a1 (IntKind.wrap .i64 ((IntKind.wrap .i64 (2 * a3)) + 1))) with
 | true => some (.inr (.inl (a0, ())))
 | false => match (ilt (IntKind.wrap .i64 ((IntKind.wrap .i64 ((IntKind.wrap .i64 (2 * a3)) + 1)) + 1)) a1) with
  | true => match idx a0 (IntKind.wrap .i64 (a2 + (IntKind.wrap .i64 ((IntKind.wrap .i64 (2 * a3)) + 1)))) with
   | none => none
   | some x0 => match idx a0 (IntKind.wrap .i64 ((IntKind.wrap .i64 (a2 + (IntKind.wrap .i64 ((IntKind.wrap .i64 (2 * a3)) + 1)))) + 1)) with
    | none => none
    | some x1 => match c ((dget a0 (dnat (IntKind.wrap .i64 (a2 + (IntKind.wrap .i64 ((IntKind.wrap .i64 (2 * a3)) + 1))))) z), (dget a0 (dnat (IntKind.wrap .i64 ((IntKind.wrap .i64 (a2 + (IntKind.wrap .i64 ((IntKind.wrap .i64 (2 * a3)) + 1)))) + 1))) z), ()) with
     | none => none
     | some (y2, _) => match (ilt y2 0) with
      | true => match idx a0 (IntKind.wrap .i64 (a2 + a3)) with
       | none => none
       | some x3 => match idx a0 (IntKind.wrap .i64 (a2 + (IntKind.wrap .i64 ((IntKind.wrap .i64 ((IntKind.wrap .i64 (2 * a3)) + 1)) + 1)))) with
        | none => none
        | some x4 => match c ((dget a0 (dnat (IntKind.wrap .i64 (a2 + a3))) z), (dget a0 (dnat (IntKind.wrap .i64 (a2 + (IntKind.wrap .i64 ((IntKind.wrap .i64 ((IntKind.wrap .i64 (2 * a3)) + 1)) + 1))))) z), ()) with
         | none => none
         | some (y5, _) => match (!(ilt y5 0)) with
          | true => some (.inr (.inr (.inl (a0, ()))))
          | false => match idx a0 (IntKind.wrap .i64 (a2 + (IntKind.wrap .i64 ((IntKind.wrap .i64 ((IntKind.wrap .i64 (2 * a3)) + 1)) + 1)))) with
           | none => none
           | some x6 => match idx a0 (IntKind.wrap .i64 (a2 + a3)) with
            | none => none
            | some x7 => match idx a0 (IntKind.wrap .i64 (a2 + a3)) with
             | none => none
             | some x8 => match idx (dset a0 (dnat (IntKind.wrap .i64 (a2 + a3))) (dget a0 (dnat (IntKind.wrap .i64 (a2 + (IntKind.wrap .i64 ((IntKind.wrap .i64 ((IntKind.wrap .i64 (2 * a3)) + 1)) + 1))))) z)) (IntKind.wrap .i64 (a2 + (IntKind.wrap .i64 ((IntKind.wrap .i64 ((IntKind.wrap .i64 (2 * a3)) + 1)) + 1)))) with
              | none => none
              | some x9 => some (.inl ((dset (dset a0 (dnat (IntKind.wrap .i64 (a2 + a3))) (dget a0 (dnat (IntKind.wrap .i64 (a2 + (IntKind.wrap .i64 ((IntKind.wrap .i64 ((IntKind.wrap .i64 (2 * a3)) + 1)) + 1))))) z)) (dnat (IntKind.wrap .i64 (a2 + (IntKind.wrap .i64 ((IntKind.wrap .i64 ((IntKind.wrap .i64 (2 * a3)) + 1)) + 1))))) (dget a0 (dnat (IntKind.wrap .i64 (a2 + a3))) z)), a1, a2, (IntKind.wrap .i64 ((IntKind.wrap .i64 ((IntKind.wrap .i64 (2 * a3)) + 1)) + 1)), ()))
      | false => match idx a0 (IntKind.wrap .i64 (a2 + a3)) with
       | none => none
       | some x10 => match idx a0 (IntKind.wrap .i64 (a2 + (IntKind.wrap .i64 ((IntKind.wrap .i64 (2 * a3)) + 1)))) with
        | none => none
        | some x11 => match c ((dget a0 (dnat (IntKind.wrap .i64 (a2 + a3))) z), (dget a0 (dnat (IntKind.wrap .i64 (a2 + (IntKind.wrap .i64 ((IntKind.wrap .i64 (2 * a3)) + 1))))) z), ()) with
         | none => none
         | some (y12, _) => match (!(ilt y12 0)) with
          | true => some (.inr (.inr (.inl (a0, ()))))
          | false => match idx a0 (IntKind.wrap .i64 (a2 + (IntKind.wrap .i64 ((IntKind.wrap .i64 (2 * a3)) + 1)))) with
           | none => none
           | some x13 => match idx a0 (IntKind.wrap .i64 (a2 + a3)) with
            | none => none
            | some x14 => match idx a0 (IntKind.wrap .i64 (a2 + a3)) with
             | none => none
             | some x15 => match idx (dset a0 (dnat (IntKind.wrap .i64 (a2 + a3))) (dget a0 (dnat (IntKind.wrap .i64 (a2 + (IntKind.wrap .i64 ((IntKind.wrap .i64 (2 * a3)) + 1))))) z)) (IntKind.wrap .i64 (a2 + (IntKind.wrap .i64 ((IntKind.wrap .i64 (2 * a3)) + 1)))) with
              | none => none
              | some x16 => some (.inl ((dset (dset a0 (dnat (IntKind.wrap .i64 (a2 + a3))) (dget a0 (dnat (IntKind.wrap .i64 (a2 + (IntKind.wrap .i64 ((IntKind.wrap .i64 (2 * a3)) + 1))))) z)) (dnat (IntKind.wrap .i64 (a2 + (IntKind.wrap .i64 ((IntKind.wrap .i64 (2 * a3)) + 1))))) (dget a0 (dnat (IntKind.wrap .i64 (a2 + a3))) z)), a1, a2, (IntKind.wrap .i64 ((IntKind.wrap .i64 (2 * a3)) + 1)), ()))
  | false => match idx a0 (IntKind.wrap .i64 (a2 + a3)) with
   | none => none
   | some x17 => match idx a0 (IntKind.wrap .i64 (a2 + (IntKind.wrap .i64 ((IntKind.wrap .i64 (2 * a3)) + 1)))) with
    | none => none
    | some x18 => match c ((dget a0 (dnat (IntKind.wrap .i64 (a2 + a3))) z), (dget a0 (dnat (IntKind.wrap .i64 (a2 + (IntKind.wrap .i64 ((IntKind.wrap .i64 (2 * a3)) + 1))))) z), ()) with
     | none => none
     | some (y19, _) => match (!(ilt y19 0)) with
      | true => some (.inr (.inr (.inl (a0, ()))))
      | false => match idx a0 (IntKind.wrap .i64 (a2 + (IntKind.wrap .i64 ((IntKind.wrap .i64 (2 * a3)) + 1)))) with
       | none => none
       | some x20 => match idx a0 (IntKind.wrap .i64 (a2 + a3)) with
        | none => none
        | some x21 => match idx a0 (IntKind.wrap .i64 (a2 + a3)) with
         | none => none
         | some x22 => match idx (dset a0 (dnat (IntKind.wrap .i64 (a2 + a3))) (dget a0 (dnat (IntKind.wrap .i64 (a2 + (IntKind.wrap .i64 ((IntKind.wrap .i64 (2 * a3)) + 1))))) z)) (IntKind.wrap .i64 (a2 + (IntKind.wrap .i64 ((IntKind.wrap .i64 (2 * a3)) + 1)))) with
          | none => none
          | some x23 => some (.inl ((dset (dset a0 (dnat (IntKind.wrap .i64 (a2 + a3))) (dget a0 (dnat (IntKind.wrap .i64 (a2 + (IntKind.wrap .i64 ((IntKind.wrap .i64 (2 * a3)) + 1))))) z)) (dnat (IntKind.wrap .i64 (a2 + (IntKind.wrap .i64 ((IntKind.wrap .i64 (2 * a3)) + 1))))) (dget a0 (dnat (IntKind.wrap .i64 (a2 + a3))) z)), a1, a2, (IntKind.wrap .i64 ((IntKind.wrap .i64 (2 * a3)) + 1)), ()))
def siftG_d [Lk] {α : Type} (z : α) (c : α × α × Unit → Option (Int × Unit)) : (List α × Int × Int × Int × Unit) → Option ((List α × Unit)) := fun (a0, a1, a2, a3, _) =>
 match iterL (siftG_s0 z c) many (a0, a2, a3, a1, ()) with
 | none => none
 | some r => match r with
  | .inl (o0, _) => some (o0, ())
  | .inr r => match r with
   | .inl (o1, _) => some (o1, ())
   | .inr _ => none
def siftG [Lk] {α : Type} (z : α) (c : α × α × Unit → Option (Int × Unit)) (v : (List α × Int × Int × Int × Unit)) : Option ((List α × Unit)) := Lk.f ((siftG_d z c) v)
theorem siftG_eq {α : Type} (z : α) (c : α × α × Unit → Option (Int × Unit)) (v : (List α × Int × Int × Int × Unit)) : (siftG z c) v = (siftG_d z c) v := lock_eq _
def heapG_s1 [Lk] {α : Type} (z : α) (c : α × α × Unit → Option (Int × Unit)) : (List α × Int × Int × Int × Unit) → Option ((List α × Int × Int × Int × Unit) ⊕ (List α × Unit) ⊕ Unit) := fun (a0, a1, a2, a3, _) =>
 match (ile 0 a3) with
 | true => match idx a0 (IntKind.wrap .i64 (a1 + a3)) with
  | none => none
  | some x0 => match idx a0 a1 with
   | none => none
   | some x1 => match idx a0 a1 with
    | none => none
    | some x2 => match idx (dset a0 (dnat a1) (dget a0 (dnat (IntKind.wrap .i64 (a1 + a3))) z)) (IntKind.wrap .i64 (a1 + a3)) with
     | none => none
     | some x3 => match (siftG z c) ((dset (dset a0 (dnat a1) (dget a0 (dnat (IntKind.wrap .i64 (a1 + a3))) z)) (dnat (IntKind.wrap .i64 (a1 + a3))) (dget a0 (dnat a1) z)), a2, a3, a1, ()) with
      | none => none
      | some (y4, _) => some (.inl (y4, a1, a2, (IntKind.wrap .i64 (a3 - 1)), ()))
 | false => some (.inr (.inl (a0, ())))
def heapG_s0 [Lk] {α : Type} (z : α) (c : α × α × Unit → Option (Int × Unit)) : (List α × Int × Int × Int × Int × Unit) → Option ((List α × Int × Int × Int × Int × Unit) ⊕ (List α × Int × Int × Int × Unit) ⊕ Unit) := fun (a0, a1, a2, a3, a4, _) =>
 match (ile 0 a4) with
 | true => match (siftG z c) (a0, a4, a3, a1, ()) with
  | none => none
  | some (y0, _) => some (.inl (y0, a1, a2, a3, (IntKind.wrap .i64 (a4 - 1)), ()))
 | false => some (.inr (.inl (a0, a1, a2, a3, ())))
def heapG_d [Lk] {α : Type} (z : α) (c : α × α × Unit → Option (Int × Unit)) : (List α × Int × Int × Unit) → Option ((List α × Unit)) := fun (a0, a1, a2, _) =>
 match quo? .i64 (IntKind.wrap .i64 ((IntKind.wrap .i64 (a2 - a1)) - 1)) 2 with
 | none => none
 | some x0 => match iterL (heapG_s0 z c) many (a0, a1, 0, (IntKind.wrap .i64 (a2 - a1)), x0, ()) with
  | none => none
  | some r => match r with
   | .inl (o1, o2, o3, o4, _) => match iterL (heapG_s1 z c) many (o1, o2, o3, (IntKind.wrap .i64 (o4 - 1)), ()) with
    | none => none
    | some r => match r with
     | .inl (o5, _) => some (o5, ())
     | .inr _ => none
   | .inr _ => none
def heapG [Lk] {α : Type} (z : α) (c : α × α × Unit → Option (Int × Unit)) (v : (List α × Int × Int × Unit)) : Option ((List α × Unit)) := Lk.f ((heapG_d z c) v)
theorem heapG_eq {α : Type} (z : α) (c : α × α × Unit → Option (Int × Unit)) (v : (List α × Int × Int × Unit)) : (heapG z c) v = (heapG_d z c) v := lock_eq _
def breakG_s0 [Lk] {α : Type} (z : α) (c : α × α × Unit → Option (Int × Unit)) : (List α × Int × Int × Int × Int × Int × Unit) → Option ((List α × Int × Int × Int × Int × Int × Unit) ⊕ (List α × Unit) ⊕ Unit) := fun (a0, a1, a2, a3, a4, a5, _) =>
 match quo? .i64 a2 4 with
 | none => none
 | some x0 => match (ile a5 (IntKind.wrap .i64 ((IntKind.wrap .i64 (a1 + (IntKind.wrap .i64 (x0 * 2)))) + 1))) with
  | true => match xorNext (a3, ()) with
   | none => none
   | some (y1, y2, _) => match (ile a2 (IntKind.wrap .i64 (IntKind.wrap .u64 ((BitVec.ofInt (IntKind.bits .u64) y2 &&& BitVec.ofInt (IntKind.bits .u64) (IntKind.wrap .u64 (a4 - 1))).toNat)))) with
    | true => match idx a0 (IntKind.wrap .i64 (a1 + (IntKind.wrap .i64 ((IntKind.wrap .i64 (IntKind.wrap .u64 ((BitVec.ofInt (IntKind.bits .u64) y2 &&& BitVec.ofInt (IntKind.bits .u64) (IntKind.wrap .u64 (a4 - 1))).toNat))) - a2)))) with
     | none => none
     | some x3 => match idx a0 a5 with
      | none => none
      | some x4 => match idx a0 a5 with
       | none => none
       | some x5 => match idx (dset a0 (dnat a5) (dget a0 (dnat (IntKind.wrap .i64 (a1 + (IntKind.wrap .i64 ((IntKind.wrap .i64 (IntKind.wrap .u64 ((BitVec.ofInt (IntKind.bits .u64) y2 &&& BitVec.ofInt (IntKind.bits .u64) (IntKind.wrap .u64 (a4 - 1))).toNat))) - a2))))) z)) (IntKind.wrap .i64 (a1 + (IntKind.wrap .i64 ((IntKind.wrap .i64 (IntKind.wrap .u64 ((BitVec.ofInt (IntKind.bits .u64) y2 &&& BitVec.ofInt (IntKind.bits .u64) (IntKind.wrap .u64 (a4 - 1))).toNat))) - a2)))) with
        | none => none
        | some x6 => some (.inl ((dset (dset a0 (dnat a5) (dget a0 (dnat (IntKind.wrap .i64 (a1 + (IntKind.wrap .i64 ((IntKind.wrap .i64 (IntKind.wrap .u64 ((BitVec.ofInt (IntKind.bits .u64) y2 &&& BitVec.ofInt (IntKind.bits .u64) (IntKind.wrap .u64 (a4 - 1))).toNat))) - a2))))) z)) (dnat (IntKind.wrap .i64 (a1 + (IntKind.wrap .i64 ((IntKind.wrap .i64 (IntKind.wrap .u64 ((BitVec.ofInt (IntKind.bits .u64) y2 &&& BitVec.ofInt (IntKind.bits .u64) (IntKind.wrap .u64 (a4 - 1))).toNat))) - a2))))) (dget a0 (dnat a5) z)), a1, a2, y1, a4, (IntKind.wrap .i64 (a5 + 1)), ()))
    | false => match idx a0 (IntKind.wrap .i64 (a1 + (IntKind.wrap .i64 (IntKind.wrap .u64 ((BitVec.ofInt (IntKind.bits .u64) y2 &&& BitVec.ofInt (IntKind.bits .u64) (IntKind.wrap .u64 (a4 - 1))).toNat))))) with
     | none => none
     | some x7 => match idx a0 a5 with
      | none => none
      | some x8 => match idx a0 a5 with
       | none => none
       | some x9 => match idx (dset a0 (dnat a5) (dget a0 (dnat (IntKind.wrap .i64 (a1 + (IntKind.wrap .i64 (IntKind.wrap .u64 ((BitVec.ofInt (IntKind.bits .u64) y2 &&& BitVec.ofInt (IntKind.bits .u64) (IntKind.wrap .u64 (a4 - 1))).toNat)))))) z)) (IntKind.wrap .i64 (a1 + (IntKind.wrap .i64 (IntKind.wrap .u64 ((BitVec.ofInt (IntKind.bits .u64) y2 &&& BitVec.ofInt (IntKind.bits .u64) (IntKind.wrap .u64 (a4 - 1))).toNat))))) with
        | none => none
        | some x10 => some (.inl ((dset (dset a0 (dnat a5) (dget a0 (dnat (IntKind.wrap .i64 (a1 + (IntKind.wrap .i64 (IntKind.wrap .u64 ((BitVec.ofInt (IntKind.bits .u64) y2 &&& BitVec.ofInt (IntKind.bits .u64) (IntKind.wrap .u64 (a4 - 1))).toNat)))))) z)) (dnat (IntKind.wrap .i64 (a1 + (IntKind.wrap .i64 (IntKind.wrap .u64 ((BitVec.ofInt (IntKind.bits .u64) y2 &&& BitVec.ofInt (IntKind.bits .u64) (IntKind.wrap .u64 (a4 - 1))).toNat)))))) (dget a0 (dnat a5) z)), a1, a2, y1, a4, (IntKind.wrap .i64 (a5 + 1)), ()))
  | false => some (.inr (.inl (a0, ())))
def breakG_d [Lk] {α : Type} (z : α) (c : α × α × Unit → Option (Int × Unit)) : (List α × Int × Int × Unit) → Option ((List α × Unit)) := fun (a0, a1, a2, _) =>
 match (ile 8 (IntKind.wrap .i64 (a2 - a1))) with
 | true => match nextPow ((IntKind.wrap .i64 (a2 - a1)), ()) with
  | none => none
  | some (y0, _) => match quo? .i64 (IntKind.wrap .i64 (a2 - a1)) 4 with
   | none => none
   | some x1 => match iterL (breakG_s0 z c) many (a0, a1, (IntKind.wrap .i64 (a2 - a1)), (IntKind.wrap .u64 (IntKind.wrap .i64 (a2 - a1))), y0, (IntKind.wrap .i64 ((IntKind.wrap .i64 (a1 + (IntKind.wrap .i64 (x1 * 2)))) - 1)), ()) with
    | none => none
    | some r => match r with
     | .inl (o2, _) => some (o2, ())
     | .inr _ => none
 | false => some (a0, ())
def breakG [Lk] {α : Type} (z : α) (c : α × α × Unit → Option (Int × Unit)) (v : (List α × Int × Int × Unit)) : Option ((List α × Unit)) := Lk.f ((breakG_d z c) v)
theorem breakG_eq {α : Type} (z : α) (c : α × α × Unit → Option (Int × Unit)) (v : (List α × Int × Int × Unit)) : (breakG z c) v = (breakG_d z c) v := lock_eq _
def order2G_d [Lk] {α : Type} (z : α) (c : α × α × Unit → Option (Int × Unit)) : (List α × Int × Int × Int × Unit) → Option ((List α × Int × Int × Int × Unit)) := fun (a0, a1, a2, a3, _) =>
 match idx a0 a2 with
 | none => none
 | some x0 => match idx a0 a1 with
  | none => none
  | some x1 => match c ((dget a0 (dnat a2) z), (dget a0 (dnat a1) z), ()) with
   | none => none
   | some (y2, _) => match (ilt y2 0) with
    | true => some (a0, (IntKind.wrap .i64 (a3 + 1)), a2, a1, ())
    | false => some (a0, a3, a1, a2, ())
def order2G [Lk] {α : Type} (z : α) (c : α × α × Unit → Option (Int × Unit)) (v : (List α × Int × Int × Int × Unit)) : Option ((List α × Int × Int × Int × Unit)) := Lk.f ((order2G_d z c) v)
theorem order2G_eq {α : Type} (z : α) (c : α × α × Unit → Option (Int × Unit)) (v : (List α × Int × Int × Int × Unit)) : (order2G z c) v = (order2G_d z c) v := lock_eq _
def medianG_d [Lk] {α : Type} (z : α) (c : α × α × Unit → Option (Int × Unit)) : (List α × Int × Int × Int × Int × Unit) → Option ((List α × Int × Int × Unit)) := fun (a0, a1, a2, a3, a4, _) =>
 match (order2G z c) (a0, a1, a2, a4, ()) with
 | none => none
 | some (y0, y1, y2, y3, _) => match (order2G z c) (y0, y3, a3, y1, ()) with
  | none => none
  | some (y4, y5, y6, y7, _) => match (order2G z c) (y4, y2, y6, y5, ()) with
   | none => none
   | some (y8, y9, y10, y11, _) => some (y8, y9, y11, ())
def medianG [Lk] {α : Type} (z : α) (c : α × α × Unit → Option (Int × Unit)) (v : (List α × Int × Int × Int × Int × Unit)) : Option ((List α × Int × Int × Unit)) := Lk.f ((medianG_d z c) v)
theorem medianG_eq {α : Type} (z : α) (c : α × α × Unit → Option (Int × Unit)) (v : (List α × Int × Int × Int × Int × Unit)) : (medianG z c) v = (medianG_d z c) v := lock_eq _
def medAdjG_d [Lk] {α : Type} (z : α) (c : α × α × Unit → Option (Int × Unit)) : (List α × Int × Int × Unit) → Option ((List α × Int × Int × Unit)) := fun (a0, a1, a2, _) =>
 match (medianG z c) (a0, (IntKind.wrap .i64 (a1 - 1)), a1, (IntKind.wrap .i64 (a1 + 1)), a2, ()) with
 | none => none
 | some (y0, y1, y2, _) => some (y0, y1, y2, ())
def medAdjG [Lk] {α : Type} (z : α) (c : α × α × Unit → Option (Int × Unit)) (v : (List α × Int × Int × Unit)) : Option ((List α × Int × Int × Unit)) := Lk.f ((medAdjG_d z c) v)
theorem medAdjG_eq {α : Type} (z : α) (c : α × α × Unit → Option (Int × Unit)) (v : (List α × Int × Int × Unit)) : (medAdjG z c) v = (medAdjG_d z c) v := lock_eq _
def pivotG_d [Lk] {α : Type} (z : α) (c : α × α × Unit → Option (Int × Unit)) : (List α × Int × Int × Unit) → Option ((List α × Int × Int × Unit)) := fun (a0, a1, a2, _) =>
 match quo? .i64 (IntKind.wrap .i64 (a2 - a1)) 4 with
 | none => none
 | some x0 => match quo? .i64 (IntKind.wrap .i64 (a2 - a1)) 4 with
  | none => none
  | some x1 => match quo? .i64 (IntKind.wrap .i64 (a2 - a1)) 4 with
   | none => none
   | some x2 => match (ile 8 (IntKind.wrap .i64 (a2 - a1))) with
    | true => match (ile 50 (IntKind.wrap .i64 (a2 - a1))) with
     | true => match (medAdjG z c) (a0, (IntKind.wrap .i64 (a1 + (IntKind.wrap .i64 (x0 * 1)))), 0, ()) with
      | none => none
      | some (y3, y4, y5, _) => match (medAdjG z c) (y3, (IntKind.wrap .i64 (a1 + (IntKind.wrap .i64 (x1 * 2)))), y4, ()) with
       | none => none
       | some (y6, y7, y8, _) => match (medAdjG z c) (y6, (IntKind.wrap .i64 (a1 + (IntKind.wrap .i64 (x2 * 3)))), y7, ()) with
        | none => none
        | some (y9, y10, y11, _) => match (medianG z c) (y9, y5, y8, y11, y10, ()) with
         | none => none
         | some (y12, y13, y14, _) => match (ieq y13 0) with
          | true => some (y12, y14, 1, ())
          | false => match (ieq y13 12) with
           | true => some (y12, y14, 2, ())
           | false => some (y12, y14, 0, ())
     | false => match (medianG z c) (a0, (IntKind.wrap .i64 (a1 + (IntKind.wrap .i64 (x0 * 1)))), (IntKind.wrap .i64 (a1 + (IntKind.wrap .i64 (x1 * 2)))), (IntKind.wrap .i64 (a1 + (IntKind.wrap .i64 (x2 * 3)))), 0, ()) with
      | none => none
      | some (y15, y16, y17, _) => match (ieq y16 0) with
       | true => some (y15, y17, 1, ())
       | false => match (ieq y16 12) with
        | true => some (y15, y17, 2, ())
        | false => some (y15, y17, 0, ())
    | false => match (ieq 0 0) with
     | true => some (a0, (IntKind.wrap .i64 (a1 + (IntKind.wrap .i64 (x1 * 2)))), 1, ())
     | false => match (ieq 0 12) with
      | true => some (a0, (IntKind.wrap .i64 (a1 + (IntKind.wrap .i64 (x1 * 2)))), 2, ())
      | false => some (a0, (IntKind.wrap .i64 (a1 + (IntKind.wrap .i64 (x1 * 2)))), 0, ())
def pivotG [Lk] {α : Type} (z : α) (c : α × α × Unit → Option (Int × Unit)) (v : (List α × Int × Int × Unit)) : Option ((List α × Int × Int × Unit)) := Lk.f ((pivotG_d z c) v)
theorem pivotG_eq {α : Type} (z : α) (c : α × α × Unit → Option (Int × Unit)) (v : (List α × Int × Int × Unit)) : (pivotG z c) v = (pivotG_d z c) v := lock_eq _
def revG_s0 [Lk] {α : Type} (z : α) (c : α × α × Unit → Option (Int × Unit)) : (List α × Int × Int × Unit) → Option ((List α × Int × Int × Unit) ⊕ (List α × Unit) ⊕ Unit) := fun (a0, a1, a2, _) =>
 match (ilt a1 a2) with
 | true => match idx a0 a2 with
  | none => none
  | some x0 => match idx a0 a1 with
   | none => none
   | some x1 => match idx a0 a1 with
    | none => none
    | some x2 => match idx (dset a0 (dnat a1) (dget a0 (dnat a2) z)) a2 with
     | none => none
     | some x3 => some (.inl ((dset (dset a0 (dnat a1) (dget a0 (dnat a2) z)) (dnat a2) (dget a0 (dnat a1) z)), (IntKind.wrap .i64 (a1 + 1)), (IntKind.wrap .i64 (a2 - 1)), ()))
 | false => some (.inr (.inl (a0, ())))
def revG_d [Lk] {α : Type} (z : α) (c : α × α × Unit → Option (Int × Unit)) : (List α × Int × Int × Unit) → Option ((List α × Unit)) := fun (a0, a1, a2, _) =>
 match iterL (revG_s0 z c) many (a0, a1, (IntKind.wrap .i64 (a2 - 1)), ()) with
 | none => none
 | some r => match r with
  | .inl (o0, _) => some (o0, ())
  | .inr _ => none
def revG [Lk] {α : Type} (z : α) (c : α × α × Unit → Option (Int × Unit)) (v : (List α × Int × Int × Unit)) : Option ((List α × Unit)) := Lk.f ((revG_d z c) v)
theorem revG_eq {α : Type} (z : α) (c : α × α × Unit → Option (Int × Unit)) (v : (List α × Int × Int × Unit)) : (revG z c) v = (revG_d z c) v := lock_eq _
def partInsG_s3 [Lk] {α : Type} (z : α) (c : α × α × Unit → Option (Int × Unit)) : (List α × Int × Int × Int × Int × Int × Unit) → Option ((List α × Int × Int × Int × Int × Int × Unit) ⊕ (List α × Int × Int × Int × Int × Unit) ⊕ Unit) := fun (a0, a1, a2, a3, a4, a5, _) =>
 match (ilt a5 a2) with
 | true => match idx a0 a5 with
  | none => none
  | some x0 => match idx a0 (IntKind.wrap .i64 (a5 - 1)) with
   | none => none
   | some x1 => match c ((dget a0 (dnat a5) z), (dget a0 (dnat (IntKind.wrap .i64 (a5 - 1))) z), ()) with
    | none => none
    | some (y2, _) => match (!(ilt y2 0)) with
     | true => some (.inr (.inl (a0, a1, a2, a3, a4, ())))
     | false => match idx a0 (IntKind.wrap .i64 (a5 - 1)) with
      | none => none
      | some x3 => match idx a0 a5 with
       | none => none
       | some x4 => match idx a0 a5 with
        | none => none
        | some x5 => match idx (dset a0 (dnat a5) (dget a0 (dnat (IntKind.wrap .i64 (a5 - 1))) z)) (IntKind.wrap .i64 (a5 - 1)) with
         | none => none
         | some x6 => some (.inl ((dset (dset a0 (dnat a5) (dget a0 (dnat (IntKind.wrap .i64 (a5 - 1))) z)) (dnat (IntKind.wrap .i64 (a5 - 1))) (dget a0 (dnat a5) z)), a1, a2, a3, a4, (IntKind.wrap .i64 (a5 + 1)), ()))
 | false => some (.inr (.inl (a0, a1, a2, a3, a4, ())))
def partInsG_s2 [Lk] {α : Type} (z : α) (c : α × α × Unit → Option (Int × Unit)) : (List α × Int × Int × Int × Int × Int × Unit) → Option ((List α × Int × Int × Int × Int × Int × Unit) ⊕ (List α × Int × Int × Int × Int × Unit) ⊕ Unit) := fun (a0, a1, a2, a3, a4, a5, _) =>
 match (ile 1 a5) with
 | true => match idx a0 a5 with
  | none => none
  | some x0 => match idx a0 (IntKind.wrap .i64 (a5 - 1)) with
   | none => none
   | some x1 => match c ((dget a0 (dnat a5) z), (dget a0 (dnat (IntKind.wrap .i64 (a5 - 1))) z), ()) with
    | none => none
    | some (y2, _) => match (!(ilt y2 0)) with
     | true => some (.inr (.inl (a0, a1, a2, a3, a4, ())))
     | false => match idx a0 (IntKind.wrap .i64 (a5 - 1)) with
      | none => none
      | some x3 => match idx a0 a5 with
       | none => none
       | some x4 => match idx a0 a5 with
        | none => none
        | some x5 => match idx (dset a0 (dnat a5) (dget a0 (dnat (IntKind.wrap .i64 (a5 - 1))) z)) (IntKind.wrap .i64 (a5 - 1)) with
         | none => none
         | some x6 => some (.inl ((dset (dset a0 (dnat a5) (dget a0 (dnat (IntKind.wrap .i64 (a5 - 1))) z)) (dnat (IntKind.wrap .i64 (a5 - 1))) (dget a0 (dnat a5) z)), a1, a2, a3, a4, (IntKind.wrap .i64 (a5 - 1)), ()))
 | false => some (.inr (.inl (a0, a1, a2, a3, a4, ())))
def partInsG_s1 [Lk] {α : Type} (z : α) (c : α × α × Unit → Option (Int × Unit)) : (List α × Int × Int × Int × Int × Unit) → Option ((List α × Int × Int × Int × Int × Unit) ⊕ (List α × Int × Int × Int × Int × Unit) ⊕ Unit) := fun (a0, a1, a2, a3, a4, _) =>
 match (ilt a3 a2) with
 | true => match idx a0 a3 with
  | none => none
  | some x0 => match idx a0 (IntKind.wrap .i64 (a3 - 1)) with
   | none => none
   | some x1 => match c ((dget a0 (dnat a3) z), (dget a0 (dnat (IntKind.wrap .i64 (a3 - 1))) z), ()) with
    | none => none
    | some (y2, _) => match (!(ilt y2 0)) with
     | true => some (.inl (a0, a1, a2, (IntKind.wrap .i64 (a3 + 1)), a4, ()))
     | false => some (.inr (.inl (a0, a1, a2, a3, a4, ())))
 | false => some (.inr (.inl (a0, a1, a2, a3, a4, ())))
def partInsG_s0 [Lk] {α : Type} (z : α) (c : α × α × Unit → Option (Int × Unit)) : (List α × Int × Int × Int × Int × Unit) → Option ((List α × Int × Int × Int × Int × Unit) ⊕ (List α × Bool × Unit) ⊕ (List α × Unit) ⊕ Unit) := fun (a0, a1, a2, a3, a4, _) =>
 match (ilt a4 5) with
 | true => match iterL (partInsG_s1 z c) many (a0, a1, a2, a3, a4, ()) with
  | none => none
  | some r => match r with
   | .inl (o0, o1, o2, o3, o4, _) => match (ieq o3 o2) with
    | true => some (.inr (.inl (o0, true, ())))
    | false => match (ilt (IntKind.wrap .i64 (o2 - o1)) 50) with
     | true => some (.inr (.inl (o0, false, ())))
     | false => match idx o0 (IntKind.wrap .i64 (o3 - 1)) with
      | none => none
      | some x5 => match idx o0 o3 with
       | none => none
       | some x6 => match idx o0 o3 with
        | none => none
        | some x7 => match idx (dset o0 (dnat o3) (dget o0 (dnat (IntKind.wrap .i64 (o3 - 1))) z)) (IntKind.wrap .i64 (o3 - 1)) with
         | none => none
         | some x8 => match (ile 2 (IntKind.wrap .i64 (o3 - o1))) with
          | true => match iterL (partInsG_s2 z c) many ((dset (dset o0 (dnat o3) (dget o0 (dnat (IntKind.wrap .i64 (o3 - 1))) z)) (dnat (IntKind.wrap .i64 (o3 - 1))) (dget o0 (dnat o3) z)), o1, o2, o3, o4, (IntKind.wrap .i64 (o3 - 1)), ()) with
           | none => none
           | some r => match r with
            | .inl (o9, o10, o11, o12, o13, _) => match (ile 2 (IntKind.wrap .i64 (o11 - o12))) with
             | true => match iterL (partInsG_s3 z c) many (o9, o10, o11, o12, o13, (IntKind.wrap .i64 (o12 + 1)), ()) with
              | none => none
              | some r => match r with
               | .inl (o14, o15, o16, o17, o18, _) => some (.inl (o14, o15, o16, o17, (IntKind.wrap .i64 (o18 + 1)), ()))
               | .inr _ => none
             | false => some (.inl (o9, o10, o11, o12, (IntKind.wrap .i64 (o13 + 1)), ()))
            | .inr _ => none
          | false => match (ile 2 (IntKind.wrap .i64 (o2 - o3))) with
           | true => match iterL (partInsG_s3 z c) many ((dset (dset o0 (dnat o3) (dget o0 (dnat (IntKind.wrap .i64 (o3 - 1))) z)) (dnat (IntKind.wrap .i64 (o3 - 1))) (dget o0 (dnat o3) z)), o1, o2, o3, o4, (IntKind.wrap .i64 (o3 + 1)), ()) with
            | none => none
            | some r => match r with
             | .inl (o19, o20, o21, o22, o23, _) => some (.inl (o19, o20, o21, o22, (IntKind.wrap .i64 (o23 + 1)), ()))
             | .inr _ => none
           | false => some (.inl ((dset (dset o0 (dnat o3) (dget o0 (dnat (IntKind.wrap .i64 (o3 - 1))) z)) (dnat (IntKind.wrap .i64 (o3 - 1))) (dget o0 (dnat o3) z)), o1, o2, o3, (IntKind.wrap .i64 (o4 + 1)), ()))
   | .inr _ => none
 | false => some (.inr (.inr (.inl (a0, ()))))
def partInsG_d [Lk] {α : Type} (z : α) (c : α × α × Unit → Option (Int × Unit)) : (List α × Int × Int × Unit) → Option ((List α × Bool × Unit)) := fun (a0, a1, a2, _) =>
 match iterL (partInsG_s0 z c) many (a0, a1, a2, (IntKind.wrap .i64 (a1 + 1)), 0, ()) with
 | none => none
 | some r => match r with
  | .inl (o0, o1, _) => some (o0, o1, ())
  | .inr r => match r with
   | .inl (o2, _) => some (o2, false, ())
   | .inr _ => none
def partInsG [Lk] {α : Type} (z : α) (c : α × α × Unit → Option (Int × Unit)) (v : (List α × Int × Int × Unit)) : Option ((List α × Bool × Unit)) := Lk.f ((partInsG_d z c) v)
theorem partInsG_eq {α : Type} (z : α) (c : α × α × Unit → Option (Int × Unit)) (v : (List α × Int × Int × Unit)) : (partInsG z c) v = (partInsG_d z c) v := lock_eq _
def partEqG_s2 [Lk] {α : Type} (z : α) (c : α × α × Unit → Option (Int × Unit)) : (List α × Int × Int × Int × Unit) → Option ((List α × Int × Int × Int × Unit) ⊕ (List α × Int × Int × Int × Unit) ⊕ Unit) := fun (a0, a1, a2, a3, _) =>
 match (ile a2 a3) with
 | true => match idx a0 a1 with
  | none => none
  | some x0 => match idx a0 a3 with
   | none => none
   | some x1 => match c ((dget a0 (dnat a1) z), (dget a0 (dnat a3) z), ()) with
    | none => none
    | some (y2, _) => match (ilt y2 0) with
     | true => some (.inl (a0, a1, a2, (IntKind.wrap .i64 (a3 - 1)), ()))
     | false => some (.inr (.inl (a0, a1, a2, a3, ())))
 | false => some (.inr (.inl (a0, a1, a2, a3, ())))
def partEqG_s1 [Lk] {α : Type} (z : α) (c : α × α × Unit → Option (Int × Unit)) : (List α × Int × Int × Int × Unit) → Option ((List α × Int × Int × Int × Unit) ⊕ (List α × Int × Int × Int × Unit) ⊕ Unit) := fun (a0, a1, a2, a3, _) =>
 match (ile a2 a3) with
 | true => match idx a0 a1 with
  | none => none
  | some x0 => match idx a0 a2 with
   | none => none
   | some x1 => match c ((dget a0 (dnat a1) z), (dget a0 (dnat a2) z), ()) with
    | none => none
    | some (y2, _) => match (!(ilt y2 0)) with
     | true => some (.inl (a0, a1, (IntKind.wrap .i64 (a2 + 1)), a3, ()))
     | false => some (.inr (.inl (a0, a1, a2, a3, ())))
 | false => some (.inr (.inl (a0, a1, a2, a3, ())))
def partEqG_s0 [Lk] {α : Type} (z : α) (c : α × α × Unit → Option (Int × Unit)) : (List α × Int × Int × Int × Unit) → Option ((List α × Int × Int × Int × Unit) ⊕ (List α × Int × Unit) ⊕ Unit) := fun (a0, a1, a2, a3, _) =>
 match iterL (partEqG_s1 z c) many (a0, a1, a2, a3, ()) with
 | none => none
 | some r => match r with
  | .inl (o0, o1, o2, o3, _) => match iterL (partEqG_s2 z c) many (o0, o1, o2, o3, ()) with
   | none => none
   | some r => match r with
    | .inl (o4, o5, o6, o7, _) => match (ilt o7 o6) with
     | true => some (.inr (.inl (o4, o6, ())))
     | false => match idx o4 o7 with
      | none => none
      | some x8 => match idx o4 o6 with
       | none => none
       | some x9 => match idx o4 o6 with
        | none => none
        | some x10 => match idx (dset o4 (dnat o6) (dget o4 (dnat o7) z)) o7 with
         | none => none
         | some x11 => some (.inl ((dset (dset o4 (dnat o6) (dget o4 (dnat o7) z)) (dnat o7) (dget o4 (dnat o6) z)), o5, (IntKind.wrap .i64 (o6 + 1)), (IntKind.wrap .i64 (o7 - 1)), ()))
    | .inr _ => none
  | .inr _ => none
def partEqG_d [Lk] {α : Type} (z : α) (c : α × α × Unit → Option (Int × Unit)) : (List α × Int × Int × Int × Unit) → Option ((List α × Int × Unit)) := fun (a0, a1, a2, a3, _) =>
 match idx a0 a3 with
 | none => none
 | some x0 => match idx a0 a1 with
  | none => none
  | some x1 => match idx a0 a1 with
   | none => none
   | some x2 => match idx (dset a0 (dnat a1) (dget a0 (dnat a3) z)) a3 with
    | none => none
    | some x3 => match iterL (partEqG_s0 z c) many ((dset (dset a0 (dnat a1) (dget a0 (dnat a3) z)) (dnat a3) (dget a0 (dnat a1) z)), a1, (IntKind.wrap .i64 (a1 + 1)), (IntKind.wrap .i64 (a2 - 1)), ()) with
     | none => none
     | some r => match r with
      | .inl (o4, o5, _) => some (o4, o5, ())
      | .inr _ => none
def partEqG [Lk] {α : Type} (z : α) (c : α × α × Unit → Option (Int × Unit)) (v : (List α × Int × Int × Int × Unit)) : Option ((List α × Int × Unit)) := Lk.f ((partEqG_d z c) v)
theorem partEqG_eq {α : Type} (z : α) (c : α × α × Unit → Option (Int × Unit)) (v : (List α × Int × Int × Int × Unit)) : (partEqG z c) v = (partEqG_d z c) v := lock_eq _
def partG_s4 [Lk] {α : Type} (z : α) (c : α × α × Unit → Option (Int × Unit)) : (List α × Int × Int × Int × Unit) → Option ((List α × Int × Int × Int × Unit) ⊕ (List α × Int × Int × Int × Unit) ⊕ Unit) := fun (a0, a1, a2, a3, _) =>
 match (ile a2 a3) with
 | true => match idx a0 a3 with
  | none => none
  | some x0 => match idx a0 a1 with
   | none => none
   | some x1 => match c ((dget a0 (dnat a3) z), (dget a0 (dnat a1) z), ()) with
    | none => none
    | some (y2, _) => match (!(ilt y2 0)) with
     | true => some (.inl (a0, a1, a2, (IntKind.wrap .i64 (a3 - 1)), ()))
     | false => some (.inr (.inl (a0, a1, a2, a3, ())))
 | false => some (.inr (.inl (a0, a1, a2, a3, ())))
def partG_s3 [Lk] {α : Type} (z : α) (c : α × α × Unit → Option (Int × Unit)) : (List α × Int × Int × Int × Unit) → Option ((List α × Int × Int × Int × Unit) ⊕ (List α × Int × Int × Int × Unit) ⊕ Unit) := fun (a0, a1, a2, a3, _) =>
 match (ile a2 a3) with
 | true => match idx a0 a2 with
  | none => none
  | some x0 => match idx a0 a1 with
   | none => none
   | some x1 => match c ((dget a0 (dnat a2) z), (dget a0 (dnat a1) z), ()) with
    | none => none
    | some (y2, _) => match (ilt y2 0) with
     | true => some (.inl (a0, a1, (IntKind.wrap .i64 (a2 + 1)), a3, ()))
     | false => some (.inr (.inl (a0, a1, a2, a3, ())))
 | false => some (.inr (.inl (a0, a1, a2, a3, ())))
def partG_s2 [Lk] {α : Type} (z : α) (c : α × α × Unit → Option (Int × Unit)) : (List α × Int × Int × Int × Unit) → Option ((List α × Int × Int × Int × Unit) ⊕ (List α × Int × Int × Unit) ⊕ Unit) := fun (a0, a1, a2, a3, _) =>
 match iterL (partG_s3 z c) many (a0, a1, a2, a3, ()) with
 | none => none
 | some r => match r with
  | .inl (o0, o1, o2, o3, _) => match iterL (partG_s4 z c) many (o0, o1, o2, o3, ()) with
   | none => none
   | some r => match r with
    | .inl (o4, o5, o6, o7, _) => match (ilt o7 o6) with
     | true => some (.inr (.inl (o4, o5, o7, ())))
     | false => match idx o4 o7 with
      | none => none
      | some x8 => match idx o4 o6 with
       | none => none
       | some x9 => match idx o4 o6 with
        | none => none
        | some x10 => match idx (dset o4 (dnat o6) (dget o4 (dnat o7) z)) o7 with
         | none => none
         | some x11 => some (.inl ((dset (dset o4 (dnat o6) (dget o4 (dnat o7) z)) (dnat o7) (dget o4 (dnat o6) z)), o5, (IntKind.wrap .i64 (o6 + 1)), (IntKind.wrap .i64 (o7 - 1)), ()))
    | .inr _ => none
  | .inr _ => none
def partG_s1 [Lk] {α : Type} (z : α) (c : α × α × Unit → Option (Int × Unit)) : (List α × Int × Int × Int × Unit) → Option ((List α × Int × Int × Int × Unit) ⊕ (List α × Int × Int × Int × Unit) ⊕ Unit) := fun (a0, a1, a2, a3, _) =>
 match (ile a2 a3) with
 | true => match idx a0 a3 with
  | none => none
  | some x0 => match idx a0 a1 with
   | none => none
   | some x1 => match c ((dget a0 (dnat a3) z), (dget a0 (dnat a1) z), ()) with
    | none => none
    | some (y2, _) => match (!(ilt y2 0)) with
     | true => some (.inl (a0, a1, a2, (IntKind.wrap .i64 (a3 - 1)), ()))
     | false => some (.inr (.inl (a0, a1, a2, a3, ())))
 | false => some (.inr (.inl (a0, a1, a2, a3, ())))
def partG_s0 [Lk] {α : Type} (z : α) (c : α × α × Unit → Option (Int × Unit)) : (List α × Int × Int × Int × Unit) → Option ((List α × Int × Int × Int × Unit) ⊕ (List α × Int × Int × Int × Unit) ⊕ Unit) := fun (a0, a1, a2, a3, _) =>
 match (ile a2 a3) with
 | true => match idx a0 a2 with
  | none => none
  | some x0 => match idx a0 a1 with
   | none => none
   | some x1 => match c ((dget a0 (dnat a2) z), (dget a0 (dnat a1) z), ()) with
    | none => none
    | some (y2, _) => match (ilt y2 0) with
     | true => some (.inl (a0, a1, (IntKind.wrap .i64 (a2 + 1)), a3, ()))
     | false => some (.inr (.inl (a0, a1, a2, a3, ())))
 | false => some (.inr (.inl (a0, a1, a2, a3, ())))
def partG_d [Lk] {α : Type} (z : α) (c : α × α × Unit → Option (Int × Unit)) : (List α × Int × Int × Int × Unit) → Option ((List α × Int × Bool × Unit)) := fun (a0, a1, a2, a3, _) =>
 match idx a0 a3 with
 | none => none
 | some x0 => match idx a0 a1 with
  | none => none
  | some x1 => match idx a0 a1 with
   | none => none
   | some x2 => match idx (dset a0 (dnat a1) (dget a0 (dnat a3) z)) a3 with
    | none => none
    | some x3 => match iterL (partG_s0 z c) many ((dset (dset a0 (dnat a1) (dget a0 (dnat a3) z)) (dnat a3) (dget a0 (dnat a1) z)), a1, (IntKind.wrap .i64 (a1 + 1)), (IntKind.wrap .i64 (a2 - 1)), ()) with
     | none => none
     | some r => match r with
      | .inl (o4, o5, o6, o7, _) => match iterL (partG_s1 z c) many (o4, o5, o6, o7, ()) with
       | none => none
       | some r => match r with
        | .inl (o8, o9, o10, o11, _) => match (ilt o11 o10) with
         | true => match idx o8 o9 with
          | none => none
          | some x12 => match idx o8 o11 with
           | none => none
           | some x13 => match idx o8 o11 with
            | none => none
            | some x14 => match idx (dset o8 (dnat o11) (dget o8 (dnat o9) z)) o9 with
             | none => none
             | some x15 => some ((dset (dset o8 (dnat o11) (dget o8 (dnat o9) z)) (dnat o9) (dget o8 (dnat o11) z)), o11, true, ())
         | false => match idx o8 o11 with
          | none => none
          | some x16 => match idx o8 o10 with
           | none => none
           | some x17 => match idx o8 o10 with
            | none => none
            | some x18 => match idx (dset o8 (dnat o10) (dget o8 (dnat o11) z)) o11 with
             | none => none
             | some x19 => match iterL (partG_s2 z c) many ((dset (dset o8 (dnat o10) (dget o8 (dnat o11) z)) (dnat o11) (dget o8 (dnat o10) z)), o9, (IntKind.wrap .i64 (o10 + 1)), (IntKind.wrap .i64 (o11 - 1)), ()) with
              | none => none
              | some r => match r with
               | .inl (o20, o21, o22, _) => match idx o20 o21 with
                | none => none
                | some x23 => match idx o20 o22 with
                 | none => none
                 | some x24 => match idx o20 o22 with
                  | none => none
                  | some x25 => match idx (dset o20 (dnat o22) (dget o20 (dnat o21) z)) o21 with
                   | none => none
                   | some x26 => some ((dset (dset o20 (dnat o22) (dget o20 (dnat o21) z)) (dnat o21) (dget o20 (dnat o22) z)), o22, false, ())
               | .inr _ => none
        | .inr _ => none
      | .inr _ => none
def partG [Lk] {α : Type} (z : α) (c : α × α × Unit → Option (Int × Unit)) (v : (List α × Int × Int × Int × Unit)) : Option ((List α × Int × Bool × Unit)) := Lk.f ((partG_d z c) v)
theorem partG_eq {α : Type} (z : α) (c : α × α × Unit → Option (Int × Unit)) (v : (List α × Int × Int × Int × Unit)) : (partG z c) v = (partG_d z c) v := lock_eq _
def pdqG_t [Lk] {α : Type} (z : α) (c : α × α × Unit → Option (Int × Unit)) (self : (List α × Int × Int × Int × Unit) → Option ((List α × Unit))) (y7 : List α) (a1 a2 p l : Int) (a4 a5 : Bool) : Option ((List α × Int × Int × Int × Bool × Bool × Unit) ⊕ (List α × Unit) ⊕ Unit) :=
 match (ilt 0 a1) with
 | true => match idx y7 (IntKind.wrap .i64 (a1 - 1)) with
  | none => none
  | some x9 => match idx y7 p with
   | none => none
   | some x10 => match c ((dget y7 (dnat (IntKind.wrap .i64 (a1 - 1))) z), (dget y7 (dnat p) z), ()) with
    | none => none
    | some (y11, _) => match (!(ilt y11 0)) with
     | true => match (partEqG z c) (y7, a1, a2, p, ()) with
      | none => none
      | some (y12, y13, _) => some (.inl (y12, y13, a2, l, a4, a5, ()))
     | false => match (partG z c) (y7, a1, a2, p, ()) with
      | none => none
      | some (y14, y15, y16, _) => match quo? .i64 (IntKind.wrap .i64 (a2 - a1)) 8 with
       | none => none
       | some x17 => match (ilt (IntKind.wrap .i64 (y15 - a1)) (IntKind.wrap .i64 (a2 - y15))) with
        | true => match self (y14, a1, y15, l, ()) with
         | none => none
         | some (y18, _) => some (.inl (y18, (IntKind.wrap .i64 (y15 + 1)), a2, l, (ile x17 (IntKind.wrap .i64 (y15 - a1))), y16, ()))
        | false => match self (y14, (IntKind.wrap .i64 (y15 + 1)), a2, l, ()) with
         | none => none
         | some (y19, _) => some (.inl (y19, a1, y15, l, (ile x17 (IntKind.wrap .i64 (a2 - y15))), y16, ()))
 | false => match (partG z c) (y7, a1, a2, p, ()) with
  | none => none
  | some (y20, y21, y22, _) => match quo? .i64 (IntKind.wrap .i64 (a2 - a1)) 8 with
   | none => none
   | some x23 => match (ilt (IntKind.wrap .i64 (y21 - a1)) (IntKind.wrap .i64 (a2 - y21))) with
    | true => match self (y20, a1, y21, l, ()) with
     | none => none
     | some (y24, _) => some (.inl (y24, (IntKind.wrap .i64 (y21 + 1)), a2, l, (ile x23 (IntKind.wrap .i64 (y21 - a1))), y22, ()))
    | false => match self (y20, (IntKind.wrap .i64 (y21 + 1)), a2, l, ()) with
     | none => none
     | some (y25, _) => some (.inl (y25, a1, y21, l, (ile x23 (IntKind.wrap .i64 (a2 - y21))), y22, ()))
def pdqG_e [Lk] {α : Type} (z : α) (c : α × α × Unit → Option (Int × Unit)) (self : (List α × Int × Int × Int × Unit) → Option ((List α × Unit))) (y6 : List α) (a1 a2 p h l : Int) (a4 a5 : Bool) : Option ((List α × Int × Int × Int × Bool × Bool × Unit) ⊕ (List α × Unit) ⊕ Unit) :=
 match a4 with
 | true => match a5 with
  | true => match (ieq h 1) with
   | true => match (partInsG z c) (y6, a1, a2, ()) with
    | none => none
    | some (y7, y8, _) => match y8 with
     | true => some (.inr (.inl (y7, ())))
     | false => (pdqG_t z c) self y7 a1 a2 p l a4 a5
   | false => (pdqG_t z c) self y6 a1 a2 p l a4 a5
  | false => (pdqG_t z c) self y6 a1 a2 p l a4 a5
 | false => (pdqG_t z c) self y6 a1 a2 p l a4 a5
def pdqG_m [Lk] {α : Type} (z : α) (c : α × α × Unit → Option (Int × Unit)) (self : (List α × Int × Int × Int × Unit) → Option ((List α × Unit))) (y2 : List α) (a1 a2 l : Int) (a4 a5 : Bool) : Option ((List α × Int × Int × Int × Bool × Bool × Unit) ⊕ (List α × Unit) ⊕ Unit) :=
 match (pivotG z c) (y2, a1, a2, ()) with
 | none => none
 | some (y3, y4, y5, _) => match (ieq y5 2) with
  | true => match (revG z c) (y3, a1, a2, ()) with
   | none => none
   | some (y6, _) => (pdqG_e z c) self y6 a1 a2 (IntKind.wrap .i64 ((IntKind.wrap .i64 (a2 - 1)) - (IntKind.wrap .i64 (y4 - a1)))) 1 l a4 a5
  | false => (pdqG_e z c) self y3 a1 a2 y4 y5 l a4 a5
def pdqG_s0 [Lk] {α : Type} (z : α) (c : α × α × Unit → Option (Int × Unit)) (self : (List α × Int × Int × Int × Unit) → Option ((List α × Unit))) : (List α × Int × Int × Int × Bool × Bool × Unit) → Option ((List α × Int × Int × Int × Bool × Bool × Unit) ⊕ (List α × Unit) ⊕ Unit) := fun (a0, a1, a2, a3, a4, a5, _) =>
 match (ile (IntKind.wrap .i64 (a2 - a1)) 12) with
 | true => match (insG z c) (a0, a1, a2, ()) with
  | none => none
  | some (y0, _) => some (.inr (.inl (y0, ())))
 | false => match (ieq a3 0) with
  | true => match (heapG z c) (a0, a1, a2, ()) with
   | none => none
   | some (y1, _) => some (.inr (.inl (y1, ())))
  | false => match (!a4) with
   | true => match (breakG z c) (a0, a1, a2, ()) with
    | none => none
    | some (y2, _) => (pdqG_m z c) self y2 a1 a2 (IntKind.wrap .i64 (a3 - 1)) a4 a5
   | false => (pdqG_m z c) self a0 a1 a2 a3 a4 a5
def pdqG_d [Lk] {α : Type} (z : α) (c : α × α × Unit → Option (Int × Unit)) (self : (List α × Int × Int × Int × Unit) → Option ((List α × Unit))) : (List α × Int × Int × Int × Unit) → Option ((List α × Unit)) := fun (a0, a1, a2, a3, _) =>
 match iterL ((pdqG_s0 z c) self) many (a0, a1, a2, a3, true, true, ()) with
 | none => none
 | some r => match r with
  | .inl (o0, _) => some (o0, ())
  | .inr _ => none
def pdqG_f [Lk] {α : Type} (z : α) (c : α × α × Unit → Option (Int × Unit)) : Nat → (List α × Int × Int × Int × Unit) → Option ((List α × Unit))
 | 0, _ => none
 | n + 1, v => (pdqG_d z c) ((pdqG_f z c) n) v
def pdqG [Lk] {α : Type} (z : α) (c : α × α × Unit → Option (Int × Unit)) (v : (List α × Int × Int × Int × Unit)) : Option ((List α × Unit)) := Lk.f ((pdqG_f z c) 100 v)
theorem pdqG_eq {α : Type} (z : α) (c : α × α × Unit → Option (Int × Unit)) (v : (List α × Int × Int × Int × Unit)) : (pdqG z c) v = (pdqG_f z c) 100 v := lock_eq _
def sortG_d [Lk] {α : Type} (z : α) (c : α × α × Unit → Option (Int × Unit)) : (List α × Unit) → Option ((List α × Unit)) := fun (a0, _) =>
 match bitsLen ((IntKind.wrap .u64 (dlen a0)), ()) with
 | none => none
 | some (y0, _) => match (pdqG z c) (a0, 0, (dlen a0), y0, ()) with
  | none => none
  | some (y1, _) => some (y1, ())
def sortG [Lk] {α : Type} (z : α) (c : α × α × Unit → Option (Int × Unit)) (v : (List α × Unit)) : Option ((List α × Unit)) := Lk.f ((sortG_d z c) v)
theorem sortG_eq {α : Type} (z : α) (c : α × α × Unit → Option (Int × Unit)) (v : (List α × Unit)) : (sortG z c) v = (sortG_d z c) v := lock_eq _
-- slices.insertionSortCmpFunc[[]int]
abbrev insL_i : Items := [(.tmp 0, .own 43 (.slice (.int .i64))), (.tmp 1, .di), (.tmp 2, .di), (.tmp 3, .clo 166 [])]
abbrev insL_o : Items := [(.obj 0, .own 43 (.slice (.int .i64)))]
abbrev insL_r : List RS := []
abbrev insL_i1 : Items := [(.obj 0, .own 43 (.slice (.int .i64))), (.tmp 0, .own' 0), (.tmp 1, .di), (.tmp 2, .di), (.tmp 3, .clo 166 []), (.tmp 8, .di), (.tmp 9, .di)]
abbrev insL_o1 : Outs := [(.exit 2, [(.obj 0, .own 43 (.slice (.int .i64))), (.tmp 0, .own' 0), (.tmp 1, .di), (.tmp 2, .di), (.tmp 3, .clo 166 []), (.tmp 8, .di)])]
def insL_s1 [Lk] : (List (List Int) × Int × Int × Int × Int × Unit) → Option ((List (List Int) × Int × Int × Int × Int × Unit) ⊕ (List (List Int) × Int × Int × Int × Unit) ⊕ Unit) := insG_s1 (([] : List (Int)) : (List Int)) with1
abbrev insL_i0 : Items := [(.obj 0, .own 43 (.slice (.int .i64))), (.tmp 0, .own' 0), (.tmp 1, .di), (.tmp 2, .di), (.tmp 3, .clo 166 []), (.tmp 8, .di)]
abbrev insL_o0 : Outs := [(.exit 0, [(.obj 0, .own 43 (.slice (.int .i64)))])]
def insL_s0 [Lk] : (List (List Int) × Int × Int × Int × Unit) → Option ((List (List Int) × Int × Int × Int × Unit) ⊕ (List (List Int) × Unit) ⊕ Unit) := insG_s0 (([] : List (Int)) : (List Int)) with1
def insL_d [Lk] : (List (List Int) × Int × Int × Unit) → Option ((List (List Int) × Unit)) := insG_d (([] : List (Int)) : (List Int)) with1
def insL [Lk] (v : (List (List Int) × Int × Int × Unit)) : Option ((List (List Int) × Unit)) := insG (([] : List (Int)) : (List Int)) with1 v
theorem insL_eq v : insL v = insL_d v := lock_eq _
-- slices.siftDownCmpFunc[[]int]
abbrev siftL_i : Items := [(.tmp 0, .own 43 (.slice (.int .i64))), (.tmp 1, .di), (.tmp 2, .di), (.tmp 3, .di), (.tmp 4, .clo 166 [])]
abbrev siftL_o : Items := [(.obj 0, .own 43 (.slice (.int .i64)))]
abbrev siftL_r : List RS := []
abbrev siftL_i0 : Items := [(.obj 0, .own 43 (.slice (.int .i64))), (.tmp 0, .own' 0), (.tmp 2, .di), (.tmp 3, .di), (.tmp 4, .clo 166 []), (.tmp 10, .di)]
abbrev siftL_o0 : Outs := [(.exit 0, [(.obj 0, .own 43 (.slice (.int .i64)))]), (.ret, [(.obj 0, .own 43 (.slice (.int .i64)))])]
def siftL_s0 [Lk] : (List (List Int) × Int × Int × Int × Unit) → Option ((List (List Int) × Int × Int × Int × Unit) ⊕ (List (List Int) × Unit) ⊕ (List (List Int) × Unit) ⊕ Unit) := siftG_s0 (([] : List (Int)) : (List Int)) with1
def siftL_d [Lk] : (List (List Int) × Int × Int × Int × Unit) → Option ((List (List Int) × Unit)) := siftG_d (([] : List (Int)) : (List Int)) with1
def siftL [Lk] (v : (List (List Int) × Int × Int × Int × Unit)) : Option ((List (List Int) × Unit)) := siftG (([] : List (Int)) : (List Int)) with1 v
theorem siftL_eq v : siftL v = siftL_d v := lock_eq _
-- slices.heapSortCmpFunc[[]int]
abbrev heapL_i : Items := [(.tmp 0, .own 43 (.slice (.int .i64))), (.tmp 1, .di), (.tmp 2, .di), (.tmp 3, .clo 166 [])]
abbrev heapL_o : Items := [(.obj 0, .own 43 (.slice (.int .i64)))]
abbrev heapL_r : List RS := []
abbrev heapL_i1 : Items := [(.obj 0, .own 43 (.slice (.int .i64))), (.tmp 0, .own' 0), (.tmp 3, .clo 166 []), (.tmp 8, .di), (.tmp 9, .di), (.tmp 12, .di)]
abbrev heapL_o1 : Outs := [(.exit 2, [(.obj 0, .own 43 (.slice (.int .i64)))])]
def heapL_s1 [Lk] : (List (List Int) × Int × Int × Int × Unit) → Option ((List (List Int) × Int × Int × Int × Unit) ⊕ (List (List Int) × Unit) ⊕ Unit) := heapG_s1 (([] : List (Int)) : (List Int)) with1
abbrev heapL_i0 : Items := [(.obj 0, .own 43 (.slice (.int .i64))), (.tmp 0, .own' 0), (.tmp 3, .clo 166 []), (.tmp 8, .di), (.tmp 9, .di), (.tmp 10, .di), (.tmp 11, .di)]
abbrev heapL_o0 : Outs := [(.exit 0, [(.obj 0, .own 43 (.slice (.int .i64))), (.tmp 0, .own' 0), (.tmp 3, .clo 166 []), (.tmp 8, .di), (.tmp 9, .di), (.tmp 10, .di)])]
def heapL_s0 [Lk] : (List (List Int) × Int × Int × Int × Int × Unit) → Option ((List (List Int) × Int × Int × Int × Int × Unit) ⊕ (List (List Int) × Int × Int × Int × Unit) ⊕ Unit) := heapG_s0 (([] : List (Int)) : (List Int)) with1
def heapL_d [Lk] : (List (List Int) × Int × Int × Unit) → Option ((List (List Int) × Unit)) := heapG_d (([] : List (Int)) : (List Int)) with1
def heapL [Lk] (v : (List (List Int) × Int × Int × Unit)) : Option ((List (List Int) × Unit)) := heapG (([] : List (Int)) : (List Int)) with1 v
theorem heapL_eq v : heapL v = heapL_d v := lock_eq _
-- slices.breakPatternsCmpFunc[[]int]
abbrev breakL_i : Items := [(.tmp 0, .own 43 (.slice (.int .i64))), (.tmp 1, .di), (.tmp 2, .di), (.tmp 3, .clo 166 [])]
abbrev breakL_o : Items := [(.obj 0, .own 43 (.slice (.int .i64)))]
abbrev breakL_r : List RS := []
abbrev breakL_i0 : Items := [(.obj 0, .own 43 (.slice (.int .i64))), (.tmp 0, .own' 0), (.tmp 1, .di), (.tmp 8, .di), (.tmp 9, .box 1), (.cell 1 0, .dat (.int .u64)), (.tmp 10, .dat (.int .u64)), (.tmp 11, .di)]
abbrev breakL_o0 : Outs := [(.exit 0, [(.obj 0, .own 43 (.slice (.int .i64)))])]
def breakL_s0 [Lk] : (List (List Int) × Int × Int × Int × Int × Int × Unit) → Option ((List (List Int) × Int × Int × Int × Int × Int × Unit) ⊕ (List (List Int) × Unit) ⊕ Unit) := breakG_s0 (([] : List (Int)) : (List Int)) with1
def breakL_d [Lk] : (List (List Int) × Int × Int × Unit) → Option ((List (List Int) × Unit)) := breakG_d (([] : List (Int)) : (List Int)) with1
def breakL [Lk] (v : (List (List Int) × Int × Int × Unit)) : Option ((List (List Int) × Unit)) := breakG (([] : List (Int)) : (List Int)) with1 v
theorem breakL_eq v : breakL v = breakL_d v := lock_eq _
-- slices.order2CmpFunc[[]int]
abbrev order2L_i : Items := [(.tmp 0, .own 43 (.slice (.int .i64))), (.tmp 1, .di), (.tmp 2, .di), (.tmp 3, .box 1), (.cell 1 0, .di), (.tmp 4, .clo 166 [])]
abbrev order2L_o : Items := [(.obj 0, .own 43 (.slice (.int .i64))), (.obj 1, .box 1), (.cell 1 0, .di), (.tmp 0, .di), (.tmp 1, .di)]
abbrev order2L_r : List RS := [.one, .one]
def order2L_d [Lk] : (List (List Int) × Int × Int × Int × Unit) → Option ((List (List Int) × Int × Int × Int × Unit)) := order2G_d (([] : List (Int)) : (List Int)) with1
def order2L [Lk] (v : (List (List Int) × Int × Int × Int × Unit)) : Option ((List (List Int) × Int × Int × Int × Unit)) := order2G (([] : List (Int)) : (List Int)) with1 v
theorem order2L_eq v : order2L v = order2L_d v := lock_eq _
-- slices.medianCmpFunc[[]int]
abbrev medianL_i : Items := [(.tmp 0, .own 43 (.slice (.int .i64))), (.tmp 1, .di), (.tmp 2, .di), (.tmp 3, .di), (.tmp 4, .box 1), (.cell 1 0, .di), (.tmp 5, .clo 166 [])]
abbrev medianL_o : Items := [(.obj 0, .own 43 (.slice (.int .i64))), (.obj 1, .box 1), (.cell 1 0, .di), (.tmp 0, .di)]
abbrev medianL_r : List RS := [.one]
def medianL_d [Lk] : (List (List Int) × Int × Int × Int × Int × Unit) → Option ((List (List Int) × Int × Int × Unit)) := medianG_d (([] : List (Int)) : (List Int)) with1
def medianL [Lk] (v : (List (List Int) × Int × Int × Int × Int × Unit)) : Option ((List (List Int) × Int × Int × Unit)) := medianG (([] : List (Int)) : (List Int)) with1 v
theorem medianL_eq v : medianL v = medianL_d v := lock_eq _
-- slices.medianAdjacentCmpFunc[[]int]
abbrev medAdjL_i : Items := [(.tmp 0, .own 43 (.slice (.int .i64))), (.tmp 1, .di), (.tmp 2, .box 1), (.cell 1 0, .di), (.tmp 3, .clo 166 [])]
abbrev medAdjL_o : Items := [(.obj 0, .own 43 (.slice (.int .i64))), (.obj 1, .box 1), (.cell 1 0, .di), (.tmp 0, .di)]
abbrev medAdjL_r : List RS := [.one]
def medAdjL_d [Lk] : (List (List Int) × Int × Int × Unit) → Option ((List (List Int) × Int × Int × Unit)) := medAdjG_d (([] : List (Int)) : (List Int)) with1
def medAdjL [Lk] (v : (List (List Int) × Int × Int × Unit)) : Option ((List (List Int) × Int × Int × Unit)) := medAdjG (([] : List (Int)) : (List Int)) with1 v
theorem medAdjL_eq v : medAdjL v = medAdjL_d v := lock_eq _
-- slices.choosePivotCmpFunc[[]int]
abbrev pivotL_i : Items := [(.tmp 0, .own 43 (.slice (.int .i64))), (.tmp 1, .di), (.tmp 2, .di), (.tmp 3, .clo 166 [])]
abbrev pivotL_o : Items := [(.obj 0, .own 43 (.slice (.int .i64))), (.tmp 0, .di), (.tmp 1, .di)]
abbrev pivotL_r : List RS := [.one, .one]
def pivotL_d [Lk] : (List (List Int) × Int × Int × Unit) → Option ((List (List Int) × Int × Int × Unit)) := pivotG_d (([] : List (Int)) : (List Int)) with1
def pivotL [Lk] (v : (List (List Int) × Int × Int × Unit)) : Option ((List (List Int) × Int × Int × Unit)) := pivotG (([] : List (Int)) : (List Int)) with1 v
theorem pivotL_eq v : pivotL v = pivotL_d v := lock_eq _
-- slices.reverseRangeCmpFunc[[]int]
abbrev revL_i : Items := [(.tmp 0, .own 43 (.slice (.int .i64))), (.tmp 1, .di), (.tmp 2, .di), (.tmp 3, .clo 166 [])]
abbrev revL_o : Items := [(.obj 0, .own 43 (.slice (.int .i64)))]
abbrev revL_r : List RS := []
abbrev revL_i0 : Items := [(.obj 0, .own 43 (.slice (.int .i64))), (.tmp 0, .own' 0), (.tmp 8, .di), (.tmp 9, .di)]
abbrev revL_o0 : Outs := [(.exit 0, [(.obj 0, .own 43 (.slice (.int .i64)))])]
def revL_s0 [Lk] : (List (List Int) × Int × Int × Unit) → Option ((List (List Int) × Int × Int × Unit) ⊕ (List (List Int) × Unit) ⊕ Unit) := revG_s0 (([] : List (Int)) : (List Int)) with1
def revL_d [Lk] : (List (List Int) × Int × Int × Unit) → Option ((List (List Int) × Unit)) := revG_d (([] : List (Int)) : (List Int)) with1
def revL [Lk] (v : (List (List Int) × Int × Int × Unit)) : Option ((List (List Int) × Unit)) := revG (([] : List (Int)) : (List Int)) with1 v
theorem revL_eq v : revL v = revL_d v := lock_eq _
-- slices.partialInsertionSortCmpFunc[[]int]
abbrev partInsL_i : Items := [(.tmp 0, .own 43 (.slice (.int .i64))), (.tmp 1, .di), (.tmp 2, .di), (.tmp 3, .clo 166 [])]
abbrev partInsL_o : Items := [(.obj 0, .own 43 (.slice (.int .i64))), (.tmp 0, .dat .bool)]
abbrev partInsL_r : List RS := [.one]
abbrev partInsL_i3 : Items := [(.obj 0, .own 43 (.slice (.int .i64))), (.tmp 0, .own' 0), (.tmp 1, .di), (.tmp 2, .di), (.tmp 3, .clo 166 []), (.tmp 9, .di), (.tmp 10, .di), (.tmp 12, .di)]
abbrev partInsL_o3 : Outs := [(.exit 6, [(.obj 0, .own 43 (.slice (.int .i64))), (.tmp 0, .own' 0), (.tmp 1, .di), (.tmp 2, .di), (.tmp 3, .clo 166 []), (.tmp 9, .di), (.tmp 10, .di)])]
def partInsL_s3 [Lk] : (List (List Int) × Int × Int × Int × Int × Int × Unit) → Option ((List (List Int) × Int × Int × Int × Int × Int × Unit) ⊕ (List (List Int) × Int × Int × Int × Int × Unit) ⊕ Unit) := partInsG_s3 (([] : List (Int)) : (List Int)) with1
abbrev partInsL_i2 : Items := [(.obj 0, .own 43 (.slice (.int .i64))), (.tmp 0, .own' 0), (.tmp 1, .di), (.tmp 2, .di), (.tmp 3, .clo 166 []), (.tmp 9, .di), (.tmp 10, .di), (.tmp 11, .di)]
abbrev partInsL_o2 : Outs := [(.exit 4, [(.obj 0, .own 43 (.slice (.int .i64))), (.tmp 0, .own' 0), (.tmp 1, .di), (.tmp 2, .di), (.tmp 3, .clo 166 []), (.tmp 9, .di), (.tmp 10, .di)])]
def partInsL_s2 [Lk] : (List (List Int) × Int × Int × Int × Int × Int × Unit) → Option ((List (List Int) × Int × Int × Int × Int × Int × Unit) ⊕ (List (List Int) × Int × Int × Int × Int × Unit) ⊕ Unit) := partInsG_s2 (([] : List (Int)) : (List Int)) with1
abbrev partInsL_i1 : Items := [(.obj 0, .own 43 (.slice (.int .i64))), (.tmp 0, .own' 0), (.tmp 1, .di), (.tmp 2, .di), (.tmp 3, .clo 166 []), (.tmp 9, .di), (.tmp 10, .di)]
abbrev partInsL_o1 : Outs := [(.exit 2, [(.obj 0, .own 43 (.slice (.int .i64))), (.tmp 0, .own' 0), (.tmp 1, .di), (.tmp 2, .di), (.tmp 3, .clo 166 []), (.tmp 9, .di), (.tmp 10, .di)])]
def partInsL_s1 [Lk] : (List (List Int) × Int × Int × Int × Int × Unit) → Option ((List (List Int) × Int × Int × Int × Int × Unit) ⊕ (List (List Int) × Int × Int × Int × Int × Unit) ⊕ Unit) := partInsG_s1 (([] : List (Int)) : (List Int)) with1
abbrev partInsL_i0 : Items := [(.obj 0, .own 43 (.slice (.int .i64))), (.tmp 0, .own' 0), (.tmp 1, .di), (.tmp 2, .di), (.tmp 3, .clo 166 []), (.tmp 9, .di), (.tmp 10, .di)]
abbrev partInsL_o0 : Outs := [(.ret, [(.obj 0, .own 43 (.slice (.int .i64))), (.tmp 8, .dat .bool)]), (.exit 0, [(.obj 0, .own 43 (.slice (.int .i64)))])]
def partInsL_s0 [Lk] : (List (List Int) × Int × Int × Int × Int × Unit) → Option ((List (List Int) × Int × Int × Int × Int × Unit) ⊕ (List (List Int) × Bool × Unit) ⊕ (List (List Int) × Unit) ⊕ Unit) := partInsG_s0 (([] : List (Int)) : (List Int)) with1
def partInsL_d [Lk] : (List (List Int) × Int × Int × Unit) → Option ((List (List Int) × Bool × Unit)) := partInsG_d (([] : List (Int)) : (List Int)) with1
def partInsL [Lk] (v : (List (List Int) × Int × Int × Unit)) : Option ((List (List Int) × Bool × Unit)) := partInsG (([] : List (Int)) : (List Int)) with1 v
theorem partInsL_eq v : partInsL v = partInsL_d v := lock_eq _
-- slices.partitionEqualCmpFunc[[]int]
abbrev partEqL_i : Items := [(.tmp 0, .own 43 (.slice (.int .i64))), (.tmp 1, .di), (.tmp 2, .di), (.tmp 3, .di), (.tmp 4, .clo 166 [])]
abbrev partEqL_o : Items := [(.obj 0, .own 43 (.slice (.int .i64))), (.tmp 0, .di)]
abbrev partEqL_r : List RS := [.one]
abbrev partEqL_i2 : Items := [(.obj 0, .own 43 (.slice (.int .i64))), (.tmp 0, .own' 0), (.tmp 1, .di), (.tmp 4, .clo 166 []), (.tmp 11, .di), (.tmp 12, .di)]
abbrev partEqL_o2 : Outs := [(.exit 4, [(.obj 0, .own 43 (.slice (.int .i64))), (.tmp 0, .own' 0), (.tmp 1, .di), (.tmp 4, .clo 166 []), (.tmp 11, .di), (.tmp 12, .di)])]
def partEqL_s2 [Lk] : (List (List Int) × Int × Int × Int × Unit) → Option ((List (List Int) × Int × Int × Int × Unit) ⊕ (List (List Int) × Int × Int × Int × Unit) ⊕ Unit) := partEqG_s2 (([] : List (Int)) : (List Int)) with1
abbrev partEqL_i1 : Items := [(.obj 0, .own 43 (.slice (.int .i64))), (.tmp 0, .own' 0), (.tmp 1, .di), (.tmp 4, .clo 166 []), (.tmp 11, .di), (.tmp 12, .di)]
abbrev partEqL_o1 : Outs := [(.exit 2, [(.obj 0, .own 43 (.slice (.int .i64))), (.tmp 0, .own' 0), (.tmp 1, .di), (.tmp 4, .clo 166 []), (.tmp 11, .di), (.tmp 12, .di)])]
def partEqL_s1 [Lk] : (List (List Int) × Int × Int × Int × Unit) → Option ((List (List Int) × Int × Int × Int × Unit) ⊕ (List (List Int) × Int × Int × Int × Unit) ⊕ Unit) := partEqG_s1 (([] : List (Int)) : (List Int)) with1
abbrev partEqL_i0 : Items := [(.obj 0, .own 43 (.slice (.int .i64))), (.tmp 0, .own' 0), (.tmp 1, .di), (.tmp 4, .clo 166 []), (.tmp 11, .di), (.tmp 12, .di)]
abbrev partEqL_o0 : Outs := [(.exit 0, [(.obj 0, .own 43 (.slice (.int .i64))), (.tmp 11, .di)])]
def partEqL_s0 [Lk] : (List (List Int) × Int × Int × Int × Unit) → Option ((List (List Int) × Int × Int × Int × Unit) ⊕ (List (List Int) × Int × Unit) ⊕ Unit) := partEqG_s0 (([] : List (Int)) : (List Int)) with1
def partEqL_d [Lk] : (List (List Int) × Int × Int × Int × Unit) → Option ((List (List Int) × Int × Unit)) := partEqG_d (([] : List (Int)) : (List Int)) with1
def partEqL [Lk] (v : (List (List Int) × Int × Int × Int × Unit)) : Option ((List (List Int) × Int × Unit)) := partEqG (([] : List (Int)) : (List Int)) with1 v
theorem partEqL_eq v : partEqL v = partEqL_d v := lock_eq _
end
end Go.Pev
end
section
namespace Go.Pev
set_option maxRecDepth 100000
noncomputable section
attribute [local irreducible] fitsR fitsIR idxR sublR iltR ileR ieqR quoR remR shlR shrR cloneR iterO many IntKind.wrap dlen dset dget dapp dtake dcut drep dnat dclear imin imax lookupM storeM
-- slices.partitionCmpFunc[[]int]
abbrev partL_i : Items := [(.tmp 0, .own 43 (.slice (.int .i64))), (.tmp 1, .di), (.tmp 2, .di), (.tmp 3, .di), (.tmp 4, .clo 166 [])]
abbrev partL_o : Items := [(.obj 0, .own 43 (.slice (.int .i64))), (.tmp 0, .di), (.tmp 1, .dat .bool)]
abbrev partL_r : List RS := [.one, .one]
abbrev partL_i4 : Items := [(.obj 0, .own 43 (.slice (.int .i64))), (.tmp 0, .own' 0), (.tmp 1, .di), (.tmp 4, .clo 166 []), (.tmp 12, .di), (.tmp 13, .di)]
abbrev partL_o4 : Outs := [(.exit 8, [(.obj 0, .own 43 (.slice (.int .i64))), (.tmp 0, .own' 0), (.tmp 1, .di), (.tmp 4, .clo 166 []), (.tmp 12, .di), (.tmp 13, .di)])]
def partL_s4 [Lk] : (List (List Int) × Int × Int × Int × Unit) → Option ((List (List Int) × Int × Int × Int × Unit) ⊕ (List (List Int) × Int × Int × Int × Unit) ⊕ Unit) := partG_s4 (([] : List (Int)) : (List Int)) with1
abbrev partL_i3 : Items := [(.obj 0, .own 43 (.slice (.int .i64))), (.tmp 0, .own' 0), (.tmp 1, .di), (.tmp 4, .clo 166 []), (.tmp 12, .di), (.tmp 13, .di)]
abbrev partL_o3 : Outs := [(.exit 6, [(.obj 0, .own 43 (.slice (.int .i64))), (.tmp 0, .own' 0), (.tmp 1, .di), (.tmp 4, .clo 166 []), (.tmp 12, .di), (.tmp 13, .di)])]
def partL_s3 [Lk] : (List (List Int) × Int × Int × Int × Unit) → Option ((List (List Int) × Int × Int × Int × Unit) ⊕ (List (List Int) × Int × Int × Int × Unit) ⊕ Unit) := partG_s3 (([] : List (Int)) : (List Int)) with1
abbrev partL_i2 : Items := [(.obj 0, .own 43 (.slice (.int .i64))), (.tmp 0, .own' 0), (.tmp 1, .di), (.tmp 4, .clo 166 []), (.tmp 12, .di), (.tmp 13, .di)]
abbrev partL_o2 : Outs := [(.exit 4, [(.obj 0, .own 43 (.slice (.int .i64))), (.tmp 0, .own' 0), (.tmp 1, .di), (.tmp 13, .di)])]
def partL_s2 [Lk] : (List (List Int) × Int × Int × Int × Unit) → Option ((List (List Int) × Int × Int × Int × Unit) ⊕ (List (List Int) × Int × Int × Unit) ⊕ Unit) := partG_s2 (([] : List (Int)) : (List Int)) with1
abbrev partL_i1 : Items := [(.obj 0, .own 43 (.slice (.int .i64))), (.tmp 0, .own' 0), (.tmp 1, .di), (.tmp 4, .clo 166 []), (.tmp 12, .di), (.tmp 13, .di)]
abbrev partL_o1 : Outs := [(.exit 2, [(.obj 0, .own 43 (.slice (.int .i64))), (.tmp 0, .own' 0), (.tmp 1, .di), (.tmp 4, .clo 166 []), (.tmp 12, .di), (.tmp 13, .di)])]
def partL_s1 [Lk] : (List (List Int) × Int × Int × Int × Unit) → Option ((List (List Int) × Int × Int × Int × Unit) ⊕ (List (List Int) × Int × Int × Int × Unit) ⊕ Unit) := partG_s1 (([] : List (Int)) : (List Int)) with1
abbrev partL_i0 : Items := [(.obj 0, .own 43 (.slice (.int .i64))), (.tmp 0, .own' 0), (.tmp 1, .di), (.tmp 4, .clo 166 []), (.tmp 12, .di), (.tmp 13, .di)]
abbrev partL_o0 : Outs := [(.exit 0, [(.obj 0, .own 43 (.slice (.int .i64))), (.tmp 0, .own' 0), (.tmp 1, .di), (.tmp 4, .clo 166 []), (.tmp 12, .di), (.tmp 13, .di)])]
def partL_s0 [Lk] : (List (List Int) × Int × Int × Int × Unit) → Option ((List (List Int) × Int × Int × Int × Unit) ⊕ (List (List Int) × Int × Int × Int × Unit) ⊕ Unit) := partG_s0 (([] : List (Int)) : (List Int)) with1
def partL_d [Lk] : (List (List Int) × Int × Int × Int × Unit) → Option ((List (List Int) × Int × Bool × Unit)) := partG_d (([] : List (Int)) : (List Int)) with1
def partL [Lk] (v : (List (List Int) × Int × Int × Int × Unit)) : Option ((List (List Int) × Int × Bool × Unit)) := partG (([] : List (Int)) : (List Int)) with1 v
theorem partL_eq v : partL v = partL_d v := lock_eq _
-- slices.pdqsortCmpFunc[[]int]
abbrev pdqL_i : Items := [(.tmp 0, .own 43 (.slice (.int .i64))), (.tmp 1, .di), (.tmp 2, .di), (.tmp 3, .di), (.tmp 4, .clo 166 [])]
abbrev pdqL_o : Items := [(.obj 0, .own 43 (.slice (.int .i64)))]
abbrev pdqL_r : List RS := []
abbrev pdqL_i0 : Items := [(.obj 0, .own 43 (.slice (.int .i64))), (.tmp 0, .own' 0), (.tmp 1, .di), (.tmp 2, .di), (.tmp 3, .di), (.tmp 4, .clo 166 []), (.tmp 10, .dat .bool), (.tmp 11, .dat .bool)]
abbrev pdqL_o0 : Outs := [(.ret, [(.obj 0, .own 43 (.slice (.int .i64)))])]
def pdqL_s0 [Lk] (self : (List (List Int) × Int × Int × Int × Unit) → Option ((List (List Int) × Unit))) : (List (List Int) × Int × Int × Int × Bool × Bool × Unit) → Option ((List (List Int) × Int × Int × Int × Bool × Bool × Unit) ⊕ (List (List Int) × Unit) ⊕ Unit) := pdqG_s0 (([] : List (Int)) : (List Int)) with1 self
def pdqL_d [Lk] (self : (List (List Int) × Int × Int × Int × Unit) → Option ((List (List Int) × Unit))) : (List (List Int) × Int × Int × Int × Unit) → Option ((List (List Int) × Unit)) := pdqG_d (([] : List (Int)) : (List Int)) with1 self
def pdqL_f [Lk] : Nat → (List (List Int) × Int × Int × Int × Unit) → Option ((List (List Int) × Unit)) := pdqG_f (([] : List (Int)) : (List Int)) with1
def pdqL [Lk] (v : (List (List Int) × Int × Int × Int × Unit)) : Option ((List (List Int) × Unit)) := pdqG (([] : List (Int)) : (List Int)) with1 v
theorem pdqL_eq v : pdqL v = pdqL_f 100 v := lock_eq _
-- slices.SortFunc[[][]int,[]int]
abbrev sortL_i : Items := [(.tmp 0, .own 43 (.slice (.int .i64))), (.tmp 1, .clo 166 [])]
abbrev sortL_o : Items := [(.obj 0, .own 43 (.slice (.int .i64)))]
abbrev sortL_r : List RS := []
def sortL_d [Lk] : (List (List Int) × Unit) → Option ((List (List Int) × Unit)) := sortG_d (([] : List (Int)) : (List Int)) with1
def sortL [Lk] (v : (List (List Int) × Unit)) : Option ((List (List Int) × Unit)) := sortG (([] : List (Int)) : (List Int)) with1 v
theorem sortL_eq v : sortL v = sortL_d v := lock_eq _
-- archipelago/tour.with
abbrev twith_i : Items := [(.tmp 0, .dat (.prod (.int .i64) (.prod (.slice (.slice (.int .i64))) .unit))), (.tmp 1, .dat (.slice (.int .i64))), (.tmp 2, .dat (.slice (.slice (.int .i64))))]
abbrev twith_o : Items := [(.tmp 0, .di), (.tmp 1, .own 43 (.slice (.int .i64)))]
abbrev twith_r : List RS := [.agg 2]
abbrev twith_i1 : Items := [(.tmp 3, .box 2), (.cell 0 0, .di), (.cell 0 1, .dat (.slice (.slice (.int .i64)))), (.tmp 6, .box 2), (.cell 1 0, .di), (.cell 1 1, .nil (.slice (.int .i64))), (.tmp 7, .own 43 (.slice (.int .i64))), (.tmp 29, .dat (.slice (.slice (.int .i64)))), (.tmp 30, .di), (.tmp 31, .di)]
abbrev twith_o1 : Outs := [(.exit 2, [(.tmp 3, .box 2), (.cell 0 0, .di), (.cell 0 1, .dat (.slice (.slice (.int .i64)))), (.tmp 6, .box 2), (.cell 1 0, .di), (.cell 1 1, .nil (.slice (.int .i64))), (.tmp 7, .own 43 (.slice (.int .i64)))])]
def twith_s1 [Lk] : (Int × List (List Int) × Int × List (List Int) × List (List Int) × Int × Int × Unit) → Option ((Int × List (List Int) × Int × List (List Int) × List (List Int) × Int × Int × Unit) ⊕ (Int × List (List Int) × Int × List (List Int) × Unit) ⊕ Unit) := fun (a0, a1, a2, a3, a4, a5, a6, _) =>
 match (ilt a6 a5) with
 | true => match idx a4 a6 with
  | none => none
  | some x0 => match rplain (x0, ()) with
   | none => none
   | some (y1, _) => match (fits ((dlen a3) + (dlen ([y1] : List (List Int))))) with
    | true => some (.inl (a0, a1, a2, (dapp a3 ([y1] : List (List Int))), a4, a5, (IntKind.wrap .i64 (a6 + 1)), ()))
    | false => none
 | false => some (.inr (.inl (a0, a1, a2, a3, ())))
abbrev twith_i0 : Items := [(.tmp 1, .dat (.slice (.int .i64))), (.tmp 2, .dat (.slice (.slice (.int .i64)))), (.tmp 3, .box 2), (.cell 0 0, .di), (.cell 0 1, .dat (.slice (.slice (.int .i64)))), (.tmp 6, .box 2), (.cell 1 0, .di), (.cell 1 1, .nil (.slice (.int .i64))), (.tmp 7, .own 43 (.slice (.int .i64))), (.tmp 13, .dat (.slice (.slice (.int .i64)))), (.tmp 14, .di), (.tmp 15, .di)]
abbrev twith_o0 : Outs := [(.exit 0, [(.tmp 2, .dat (.slice (.slice (.int .i64)))), (.tmp 3, .box 2), (.cell 0 0, .di), (.cell 0 1, .dat (.slice (.slice (.int .i64)))), (.tmp 6, .box 2), (.cell 1 0, .di), (.cell 1 1, .nil (.slice (.int .i64))), (.tmp 7, .own 43 (.slice (.int .i64)))])]
def twith_s0 [Lk] : (List Int × List (List Int) × Int × List (List Int) × Int × List (List Int) × List (List Int) × Int × Int × Unit) → Option ((List Int × List (List Int) × Int × List (List Int) × Int × List (List Int) × List (List Int) × Int × Int × Unit) ⊕ (List (List Int) × Int × List (List Int) × Int × List (List Int) × Unit) ⊕ Unit) := fun (a0, a1, a2, a3, a4, a5, a6, a7, a8, _) =>
 match (ilt a8 a7) with
 | true => match idx a6 a8 with
  | none => none
  | some x0 => match containsI (a0, a8, ()) with
   | none => none
   | some (y1, _) => match (!y1) with
    | true => match (fits ((dlen a5) + (dlen ([x0] : List (List Int))))) with
     | true => some (.inl (a0, a1, a2, a3, a4, (dapp a5 ([x0] : List (List Int))), a6, a7, (IntKind.wrap .i64 (a8 + 1)), ()))
     | false => none
    | false => some (.inl (a0, a1, a2, a3, a4, a5, a6, a7, (IntKind.wrap .i64 (a8 + 1)), ()))
 | false => some (.inr (.inl (a1, a2, a3, a4, a5, ())))
def twith_d [Lk] : ((Int × (List (List Int)) × Unit) × List Int × List (List Int) × Unit) → Option ((Int × List (List Int) × Unit)) := fun (a0, a1, a2, _) =>
 match iterL twith_s0 many (a1, a2, a0.1, a0.2.1, 0, ([] : List (List Int)), a0.2.1, (dlen a0.2.1), 0, ()) with
 | none => none
 | some r => match r with
  | .inl (o0, o1, o2, o3, o4, _) => match iterL twith_s1 many (o1, o2, o3, o4, o0, (dlen o0), 0, ()) with
   | none => none
   | some r => match r with
    | .inl (o5, o6, o7, o8, _) => match sortL (o8, ()) with
     | none => none
     | some (y9, _) => some (o5, y9, ())
    | .inr _ => none
  | .inr _ => none
def twith [Lk] := fun v => Lk.f (twith_d v)
theorem twith_eq v : twith v = twith_d v := lock_eq _
-- archipelago/tour.Link
abbrev tlink_i : Items := [(.tmp 0, .dat (.prod (.int .i64) (.prod (.slice (.slice (.int .i64))) .unit))), (.tmp 1, .di), (.tmp 2, .di)]
abbrev tlink_o : Items := [(.tmp 0, .di), (.tmp 1, .dat (.slice (.slice (.int .i64)))), (.tmp 2, .di)]
abbrev tlink_r : List RS := [.agg 2, .one]
def tlink_d [Lk] : ((Int × (List (List Int)) × Unit) × Int × Int × Unit) → Option ((Int × List (List Int) × Int × Unit)) := fun (a0, a1, a2, _) =>
 match asked ((a0.1, (a0.2.1, ())), a1, a2, ()) with
 | none => none
 | some (y0, _) => match (!(ieq y0 0)) with
  | true => some (a0.1, a0.2.1, y0, ())
  | false => match tplace ((a0.1, (a0.2.1, ())), a1, ()) with
   | none => none
   | some (y1, _) => match tplace ((a0.1, (a0.2.1, ())), a2, ()) with
    | none => none
    | some (y2, _) => match (ieq y1 y2) with
     | true => some (a0.1, a0.2.1, 5, ())
     | false => match idx a0.2.1 y1 with
      | none => none
      | some x3 => match rfrom (x3, a1, ()) with
       | none => none
       | some (y4, y5, _) => match idx a0.2.1 y2 with
        | none => none
        | some x6 => match rfrom (x6, a2, ()) with
         | none => none
         | some (y7, y8, _) => match subl y4 0 1 with
          | none => none
          | some x9 => match tarc (a0.1, a1, a2, ()) with
           | none => none
           | some (y10, _) => match tarc (a0.1, a2, a1, ()) with
            | none => none
            | some (y11, _) => match subl y4 1 (dlen y4) with
             | none => none
             | some x12 => match concatI (([(dcut 0 (dnat (dlen x9)) y4), ([y10] : List (Int)), y7, ([y11] : List (Int)), (dcut 1 (dnat (dlen x12)) y4)] : List (List Int)), ()) with
              | none => none
              | some (y13, _) => match twith ((a0.1, (a0.2.1, ())), ([y1, y2] : List (Int)), ([y13] : List (List Int)), ()) with
               | none => none
               | some (y14, y15, _) => some (y14, y15, 0, ())
def tlink [Lk] := fun v => Lk.f (tlink_d v)
theorem tlink_eq v : tlink v = tlink_d v := lock_eq _
-- slices.IndexFunc[[]int,int]
abbrev idxFuncI_there_i : Items := [(.tmp 0, .dat (.slice (.int .i64))), (.cap 1 0, .box 2), (.cell 0 0, .di), (.cell 0 1, .dat (.slice (.slice (.int .i64)))), (.tmp 1, .clo 154 [(0, 0)])]
abbrev idxFuncI_there_o : Items := [(.obj 0, .box 2), (.cell 0 0, .di), (.cell 0 1, .dat (.slice (.slice (.int .i64)))), (.tmp 0, .di)]
abbrev idxFuncI_there_r : List RS := [.one]
abbrev idxFuncI_there_i0 : Items := [(.obj 0, .box 2), (.cell 0 0, .di), (.cell 0 1, .dat (.slice (.slice (.int .i64)))), (.tmp 0, .dat (.slice (.int .i64))), (.tmp 1, .clo 154 [(0, 0)]), (.tmp 7, .di), (.tmp 8, .di)]
abbrev idxFuncI_there_o0 : Outs := [(.ret, [(.obj 0, .box 2), (.cell 0 0, .di), (.cell 0 1, .dat (.slice (.slice (.int .i64)))), (.tmp 4, .di)]), (.exit 0, [(.obj 0, .box 2), (.cell 0 0, .di), (.cell 0 1, .dat (.slice (.slice (.int .i64))))])]
def idxFuncI_there_s0 [Lk] : (Int × List (List Int) × List Int × Int × Int × Unit) → Option ((Int × List (List Int) × List Int × Int × Int × Unit) ⊕ (Int × List (List Int) × Int × Unit) ⊕ (Int × List (List Int) × Unit) ⊕ Unit) := fun (a0, a1, a2, a3, a4, _) =>
 match (ilt a4 a3) with
 | true => match idx a2 a4 with
  | none => none
  | some x0 => match (ilt x0 0) with
   | true => some (.inr (.inl (a0, a1, a4, ())))
   | false => match (ile a0 x0) with
    | true => some (.inr (.inl (a0, a1, a4, ())))
    | false => some (.inl (a0, a1, a2, a3, (IntKind.wrap .i64 (a4 + 1)), ()))
 | false => some (.inr (.inr (.inl (a0, a1, ()))))
def idxFuncI_there_d [Lk] : (List Int × Int × List (List Int) × Unit) → Option ((Int × List (List Int) × Int × Unit)) := fun (a0, a1, a2, _) =>
 match iterL idxFuncI_there_s0 many (a1, a2, a0, (dlen a0), 0, ()) with
 | none => none
 | some r => match r with
  | .inl (o0, o1, o2, _) => some (o0, o1, o2, ())
  | .inr r => match r with
   | .inl (o3, o4, _) => some (o3, o4, (-1 : Int), ())
   | .inr _ => none
def idxFuncI_there [Lk] := fun v => Lk.f (idxFuncI_there_d v)
theorem idxFuncI_there_eq v : idxFuncI_there v = idxFuncI_there_d v := lock_eq _
-- slices.ContainsFunc[[]int,int]
abbrev contFuncI_there_i : Items := [(.tmp 0, .dat (.slice (.int .i64))), (.cap 1 0, .box 2), (.cell 0 0, .di), (.cell 0 1, .dat (.slice (.slice (.int .i64)))), (.tmp 1, .clo 154 [(0, 0)])]
abbrev contFuncI_there_o : Items := [(.obj 0, .box 2), (.cell 0 0, .di), (.cell 0 1, .dat (.slice (.slice (.int .i64)))), (.tmp 0, .dat .bool)]
abbrev contFuncI_there_r : List RS := [.one]
def contFuncI_there_d [Lk] : (List Int × Int × List (List Int) × Unit) → Option ((Int × List (List Int) × Bool × Unit)) := fun (a0, a1, a2, _) =>
 match idxFuncI_there (a0, a1, a2, ()) with
 | none => none
 | some (y0, y1, y2, _) => some (y0, y1, (ile 0 y2), ())
def contFuncI_there [Lk] := fun v => Lk.f (contFuncI_there_d v)
theorem contFuncI_there_eq v : contFuncI_there v = contFuncI_there_d v := lock_eq _
-- archipelago/forest.there
abbrev fthere_i : Items := [(.tmp 0, .dat (.prod (.int .i64) (.prod (.slice (.slice (.int .i64))) .unit))), (.tmp 1, .dat (.slice (.int .i64)))]
abbrev fthere_o : Items := [(.tmp 0, .di)]
abbrev fthere_r : List RS := [.one]
def fthere_d [Lk] : ((Int × (List (List Int)) × Unit) × List Int × Unit) → Option ((Int × Unit)) := fun (a0, a1, _) =>
 match tright ((a0.1, (a0.2.1, ())), ()) with
 | none => none
 | some (y0, _) => match (!y0) with
  | true => some (1, ())
  | false => match contFuncI_there (a1, a0.1, a0.2.1, ()) with
   | none => none
   | some (y1, y2, y3, _) => match y3 with
    | true => some (10, ())
    | false => some (0, ())
def fthere [Lk] := fun v => Lk.f (fthere_d v)
theorem fthere_eq v : fthere v = fthere_d v := lock_eq _
-- archipelago/forest.ends
abbrev ends_i : Items := [(.tmp 0, .dat (.slice (.prod (.int .i64) (.prod (.int .i64) .unit))))]
abbrev ends_o : Items := [(.tmp 0, .own 3 (.int .i64))]
abbrev ends_r : List RS := [.one]
abbrev ends_i0 : Items := [(.tmp 3, .own 3 (.int .i64)), (.tmp 6, .dat (.slice (.prod (.int .i64) (.prod (.int .i64) .unit)))), (.tmp 7, .di), (.tmp 8, .di)]
abbrev ends_o0 : Outs := [(.exit 0, [(.tmp 3, .own 3 (.int .i64))])]
def ends_s0 [Lk] : (List Int × List (Int × Int × Unit) × Int × Int × Unit) → Option ((List Int × List (Int × Int × Unit) × Int × Int × Unit) ⊕ (List Int × Unit) ⊕ Unit) := fun (a0, a1, a2, a3, _) =>
 match (ilt a3 a2) with
 | true => match idx a1 a3 with
  | none => none
  | some x0 => match (fits ((dlen a0) + (dlen ([x0.1, x0.2.1] : List (Int))))) with
   | true => some (.inl ((dapp a0 ([x0.1, x0.2.1] : List (Int))), a1, a2, (IntKind.wrap .i64 (a3 + 1)), ()))
   | false => none
 | false => some (.inr (.inl (a0, ())))
def ends_d [Lk] : (List (Int × Int × Unit) × Unit) → Option ((List Int × Unit)) := fun (a0, _) =>
 match iterL ends_s0 many (([] : List (Int)), a0, (dlen a0), 0, ()) with
 | none => none
 | some r => match r with
  | .inl (o0, _) => some (o0, ())
  | .inr _ => none
def ends [Lk] := fun v => Lk.f (ends_d v)
theorem ends_eq v : ends v = ends_d v := lock_eq _
-- archipelago/forest.each
abbrev eachLink_i : Items := [(.tmp 0, .dat (.prod (.int .i64) (.prod (.slice (.slice (.int .i64))) .unit))), (.tmp 1, .dat (.slice (.prod (.int .i64) (.prod (.int .i64) .unit)))), (.tmp 2, .clo 124 [])]
abbrev eachLink_o : Items := [(.tmp 0, .dat (.prod (.int .i64) (.prod (.slice (.slice (.int .i64))) .unit))), (.tmp 1, .own 4 .bool), (.tmp 2, .di)]
abbrev eachLink_r : List RS := [.one, .one, .one]
abbrev eachLink_i0 : Items := [(.tmp 2, .clo 124 []), (.tmp 3, .box 2), (.cell 0 0, .di), (.cell 0 1, .dat (.slice (.slice (.int .i64)))), (.tmp 6, .box 2), (.cell 1 0, .di), (.cell 1 1, .nil (.slice (.int .i64))), (.tmp 10, .own 4 .bool), (.tmp 23, .dat (.slice (.prod (.int .i64) (.prod (.int .i64) .unit)))), (.tmp 24, .di), (.tmp 25, .di)]
abbrev eachLink_o0 : Outs := [(.exit 0, [(.tmp 3, .box 2), (.cell 0 0, .di), (.cell 0 1, .dat (.slice (.slice (.int .i64)))), (.tmp 6, .box 2), (.cell 1 0, .di), (.cell 1 1, .nil (.slice (.int .i64))), (.tmp 10, .own 4 .bool)])]
def eachLink_s0 [Lk] : (Int × List (List Int) × Int × List Bool × List (Int × Int × Unit) × Int × Int × Unit) → Option ((Int × List (List Int) × Int × List Bool × List (Int × Int × Unit) × Int × Int × Unit) ⊕ (Int × List (List Int) × Int × List Bool × Unit) ⊕ Unit) := fun (a0, a1, a2, a3, a4, a5, a6, _) =>
 match (ilt a6 a5) with
 | true => match idx a4 a6 with
  | none => none
  | some x0 => match tlink ((a0, (a1, ())), x0.1, x0.2.1, ()) with
   | none => none
   | some (y1, y2, y3, _) => match (fits ((dlen a3) + (dlen ([(ieq y3 0)] : List (Bool))))) with
    | true => some (.inl (y1, y2, a2, (dapp a3 ([(ieq y3 0)] : List (Bool))), a4, a5, (IntKind.wrap .i64 (a6 + 1)), ()))
    | false => none
 | false => some (.inr (.inl (a0, a1, a2, a3, ())))
def eachLink_d [Lk] : ((Int × (List (List Int)) × Unit) × List (Int × Int × Unit) × Unit) → Option (((Int × (List (List Int)) × Unit) × List Bool × Int × Unit)) := fun (a0, a1, _) =>
 match ends (a1, ()) with
 | none => none
 | some (y0, _) => match fthere ((a0.1, (a0.2.1, ())), y0, ()) with
  | none => none
  | some (y1, _) => match (!(ieq y1 0)) with
   | true => some ((a0.1, (a0.2.1, ())), ([] : List (Bool)), y1, ())
   | false => match iterL eachLink_s0 many (a0.1, a0.2.1, 0, ([] : List (Bool)), a1, (dlen a1), 0, ()) with
    | none => none
    | some r => match r with
     | .inl (o2, o3, o4, o5, _) => some ((o2, (o3, ())), o5, 0, ())
     | .inr _ => none
def eachLink [Lk] := fun v => Lk.f (eachLink_d v)
theorem eachLink_eq v : eachLink v = eachLink_d v := lock_eq _
-- archipelago/forest.Links
abbrev flinks_i : Items := [(.tmp 0, .dat (.prod (.int .i64) (.prod (.slice (.slice (.int .i64))) .unit))), (.tmp 1, .dat (.slice (.prod (.int .i64) (.prod (.int .i64) .unit))))]
abbrev flinks_o : Items := [(.tmp 0, .dat (.prod (.int .i64) (.prod (.slice (.slice (.int .i64))) .unit))), (.tmp 1, .own 4 .bool), (.tmp 2, .di)]
abbrev flinks_r : List RS := [.one, .one, .one]
def flinks_d [Lk] : ((Int × (List (List Int)) × Unit) × List (Int × Int × Unit) × Unit) → Option (((Int × (List (List Int)) × Unit) × List Bool × Int × Unit)) := fun (a0, a1, _) =>
 match eachLink ((a0.1, (a0.2.1, ())), a1, ()) with
 | none => none
 | some (y0, y1, y2, _) => some ((y0.1, (y0.2.1, ())), y1, y2, ())
def flinks [Lk] := fun v => Lk.f (flinks_d v)
theorem flinks_eq v : flinks v = flinks_d v := lock_eq _
-- archipelago/forest.Of
abbrev fof_i : Items := [(.tmp 0, .di), (.tmp 1, .dat (.slice (.prod (.int .i64) (.prod (.int .i64) .unit))))]
abbrev fof_o : Items := [(.tmp 0, .dat (.prod (.int .i64) (.prod (.slice (.slice (.int .i64))) .unit))), (.tmp 1, .di)]
abbrev fof_r : List RS := [.one, .one]
def fof_d [Lk] : (Int × List (Int × Int × Unit) × Unit) → Option (((Int × (List (List Int)) × Unit) × Int × Unit)) := fun (a0, a1, _) =>
 match tmake (a0, ()) with
 | none => none
 | some (y0, y1, y2, _) => match (!(ieq y2 0)) with
  | true => some ((0, (([] : List (List Int)), ())), y2, ())
  | false => match flinks ((y0, (y1, ())), a1, ()) with
   | none => none
   | some (y3, y4, y5, _) => match (!(ieq y5 0)) with
    | true => some ((0, (([] : List (List Int)), ())), y5, ())
    | false => some ((y3.1, (y3.2.1, ())), 0, ())
def fof [Lk] := fun v => Lk.f (fof_d v)
theorem fof_eq v : fof v = fof_d v := lock_eq _
-- cmp.Or[int]
abbrev orI_i : Items := [(.tmp 0, .dat (.slice (.int .i64)))]
abbrev orI_o : Items := [(.tmp 0, .di)]
abbrev orI_r : List RS := [.one]
abbrev orI_i0 : Items := [(.tmp 3, .di), (.tmp 6, .dat (.slice (.int .i64))), (.tmp 7, .di), (.tmp 8, .di)]
abbrev orI_o0 : Outs := [(.ret, [(.tmp 2, .di)]), (.exit 0, [(.tmp 3, .di)])]
def orI_s0 [Lk] : (Int × List Int × Int × Int × Unit) → Option ((Int × List Int × Int × Int × Unit) ⊕ (Int × Unit) ⊕ (Int × Unit) ⊕ Unit) := fun (a0, a1, a2, a3, _) =>
 match (ilt a3 a2) with
 | true => match idx a1 a3 with
  | none => none
  | some x0 => match (!(ieq x0 a0)) with
   | true => some (.inr (.inl (x0, ())))
   | false => some (.inl (a0, a1, a2, (IntKind.wrap .i64 (a3 + 1)), ()))
 | false => some (.inr (.inr (.inl (a0, ()))))
def orI_d [Lk] : (List Int × Unit) → Option ((Int × Unit)) := fun (a0, _) =>
 match iterL orI_s0 many (0, a0, (dlen a0), 0, ()) with
 | none => none
 | some r => match r with
  | .inl (o0, _) => some (o0, ())
  | .inr r => match r with
   | .inl (o1, _) => some (o1, ())
   | .inr _ => none
def orI [Lk] := fun v => Lk.f (orI_d v)
theorem orI_eq v : orI v = orI_d v := lock_eq _
-- archipelago/level.sized
abbrev lsized_i : Items := [(.tmp 0, .di)]
abbrev lsized_o : Items := [(.tmp 0, .dat .bool)]
abbrev lsized_r : List RS := [.one]
def lsized_d [Lk] : (Int × Unit) → Option ((Bool × Unit)) := fun (a0, _) =>
 match (ile 1 a0) with
 | true => some ((ile a0 64), ())
 | false => some (false, ())
def lsized [Lk] := fun v => Lk.f (lsized_d v)
theorem lsized_eq v : lsized v = lsized_d v := lock_eq _
-- archipelago/level.Top
abbrev ltop_i : Items := [(.tmp 0, .di)]
abbrev ltop_o : Items := [(.tmp 0, .di)]
abbrev ltop_r : List RS := [.one]
def ltop_d [Lk] : (Int × Unit) → Option ((Int × Unit)) := fun (a0, _) =>
 match lsized (a0, ()) with
 | none => none
 | some (y0, _) => match (!y0) with
  | true => some (0, ())
  | false => match bitsLen ((IntKind.wrap .u64 (IntKind.wrap .i64 (a0 - 1))), ()) with
   | none => none
   | some (y1, _) => some (y1, ())
def ltop [Lk] := fun v => Lk.f (ltop_d v)
theorem ltop_eq v : ltop v = ltop_d v := lock_eq _
-- archipelago/level.compare
abbrev lcompare_i : Items := [(.tmp 0, .dat (.prod (.int .i64) (.prod (.int .i64) (.prod (.int .i64) (.prod .bool .unit))))), (.tmp 1, .dat (.prod (.int .i64) (.prod (.int .i64) (.prod (.int .i64) (.prod .bool .unit)))))]
abbrev lcompare_o : Items := [(.tmp 0, .di)]
abbrev lcompare_r : List RS := [.one]
def lcompare_d [Lk] : ((Int × Int × Int × Bool × Unit) × (Int × Int × Int × Bool × Unit) × Unit) → Option ((Int × Unit)) := fun (a0, a1, _) =>
 match compareI (a0.1, a1.1, ()) with
 | none => none
 | some (y0, _) => match compareI (a0.2.1, a1.2.1, ()) with
  | none => none
  | some (y1, _) => match orI (([y0, y1] : List (Int)), ()) with
   | none => none
   | some (y2, _) => some (y2, ())
def lcompare [Lk] := fun v => Lk.f (lcompare_d v)
theorem lcompare_eq v : lcompare v = lcompare_d v := lock_eq _
-- archipelago/level.trees
abbrev ltrees_i : Items := [(.tmp 0, .dat (.prod (.int .i64) (.prod (.slice (.prod (.int .i64) (.prod (.int .i64) (.prod (.int .i64) (.prod .bool .unit))))) .unit))), (.tmp 1, .di)]
abbrev ltrees_o : Items := [(.tmp 0, .own 72 (.prod (.int .i64) (.prod (.int .i64) .unit)))]
abbrev ltrees_r : List RS := [.one]
abbrev ltrees_i0 : Items := [(.tmp 1, .di), (.tmp 5, .own 72 (.prod (.int .i64) (.prod (.int .i64) .unit))), (.tmp 9, .dat (.slice (.prod (.int .i64) (.prod (.int .i64) (.prod (.int .i64) (.prod .bool .unit)))))), (.tmp 10, .di), (.tmp 11, .di)]
abbrev ltrees_o0 : Outs := [(.exit 0, [(.tmp 5, .own 72 (.prod (.int .i64) (.prod (.int .i64) .unit)))])]
def ltrees_s0 [Lk] : (Int × List (Int × Int × Unit) × List (Int × Int × Int × Bool × Unit) × Int × Int × Unit) → Option ((Int × List (Int × Int × Unit) × List (Int × Int × Int × Bool × Unit) × Int × Int × Unit) ⊕ (List (Int × Int × Unit) × Unit) ⊕ Unit) := fun (a0, a1, a2, a3, a4, _) =>
 match (ilt a4 a3) with
 | true => match idx a2 a4 with
  | none => none
  | some x0 => match x0.2.2.2.1 with
   | true => match (ile a0 x0.2.2.1) with
    | true => match (fits ((dlen a1) + (dlen ([(x0.1, (x0.2.1, ()))] : List (Int × Int × Unit))))) with
     | true => some (.inl (a0, (dapp a1 ([(x0.1, (x0.2.1, ()))] : List (Int × Int × Unit))), a2, a3, (IntKind.wrap .i64 (a4 + 1)), ()))
     | false => none
    | false => some (.inl (a0, a1, a2, a3, (IntKind.wrap .i64 (a4 + 1)), ()))
   | false => some (.inl (a0, a1, a2, a3, (IntKind.wrap .i64 (a4 + 1)), ()))
 | false => some (.inr (.inl (a1, ())))
def ltrees_d [Lk] : ((Int × (List (Int × Int × Int × Bool × Unit)) × Unit) × Int × Unit) → Option ((List (Int × Int × Unit) × Unit)) := fun (a0, a1, _) =>
 match iterL ltrees_s0 many (a1, ([] : List (Int × Int × Unit)), a0.2.1, (dlen a0.2.1), 0, ()) with
 | none => none
 | some r => match r with
  | .inl (o0, _) => some (o0, ())
  | .inr _ => none
def ltrees [Lk] := fun v => Lk.f (ltrees_d v)
theorem ltrees_eq v : ltrees v = ltrees_d v := lock_eq _
-- archipelago/level.Right
abbrev lright_i : Items := [(.tmp 0, .dat (.prod (.int .i64) (.prod (.slice (.prod (.int .i64) (.prod (.int .i64) (.prod (.int .i64) (.prod .bool .unit))))) .unit)))]
abbrev lright_o : Items := [(.tmp 0, .dat .bool)]
abbrev lright_r : List RS := [.one]
abbrev lright_i0 : Items := [(.tmp 1, .box 2), (.cell 0 0, .di), (.cell 0 1, .dat (.slice (.prod (.int .i64) (.prod (.int .i64) (.prod (.int .i64) (.prod .bool .unit)))))), (.tmp 3, .di), (.tmp 23, .dat (.slice (.prod (.int .i64) (.prod (.int .i64) (.prod (.int .i64) (.prod .bool .unit)))))), (.tmp 24, .di), (.tmp 25, .di)]
abbrev lright_o0 : Outs := [(.ret, [(.tmp 2, .dat .bool)]), (.exit 0, [(.tmp 1, .box 2), (.cell 0 0, .di), (.cell 0 1, .dat (.slice (.prod (.int .i64) (.prod (.int .i64) (.prod (.int .i64) (.prod .bool .unit))))))])]
def lright_s0 [Lk] : (Int × List (Int × Int × Int × Bool × Unit) × Int × List (Int × Int × Int × Bool × Unit) × Int × Int × Unit) → Option ((Int × List (Int × Int × Int × Bool × Unit) × Int × List (Int × Int × Int × Bool × Unit) × Int × Int × Unit) ⊕ (Bool × Unit) ⊕ (Int × List (Int × Int × Int × Bool × Unit) × Unit) ⊕ Unit) := fun (a0, a1, a2, a3, a4, a5, _) =>
 match (ilt a5 a4) with
 | true => match idx a3 a5 with
  | none => none
  | some x0 => match (ilt x0.1 0) with
   | true => some (.inr (.inl (false, ())))
   | false => match (ile x0.2.1 x0.1) with
    | true => some (.inr (.inl (false, ())))
    | false => match (ile a0 x0.2.1) with
     | true => some (.inr (.inl (false, ())))
     | false => match (ilt x0.2.2.1 0) with
      | true => some (.inr (.inl (false, ())))
      | false => match (ilt a2 x0.2.2.1) with
       | true => some (.inr (.inl (false, ())))
       | false => match (ilt 0 a5) with
        | true => match idx a1 (IntKind.wrap .i64 (a5 - 1)) with
         | none => none
         | some x1 => match lcompare ((x1.1, (x1.2.1, (x1.2.2.1, (x1.2.2.2.1, ())))), (x0.1, (x0.2.1, (x0.2.2.1, (x0.2.2.2.1, ())))), ()) with
          | none => none
          | some (y2, _) => match (ile 0 y2) with
           | true => some (.inr (.inl (false, ())))
           | false => some (.inl (a0, a1, a2, a3, a4, (IntKind.wrap .i64 (a5 + 1)), ()))
        | false => some (.inl (a0, a1, a2, a3, a4, (IntKind.wrap .i64 (a5 + 1)), ()))
 | false => some (.inr (.inr (.inl (a0, a1, ()))))
def lright_d [Lk] : ((Int × (List (Int × Int × Int × Bool × Unit)) × Unit) × Unit) → Option ((Bool × Unit)) := fun (a0, _) =>
 match lsized (a0.1, ()) with
 | none => none
 | some (y0, _) => match (!y0) with
  | true => some (false, ())
  | false => match (ilt 400 (dlen a0.2.1)) with
   | true => some (false, ())
   | false => match ltop (a0.1, ()) with
    | none => none
    | some (y1, _) => match iterL lright_s0 many (a0.1, a0.2.1, y1, a0.2.1, (dlen a0.2.1), 0, ()) with
     | none => none
     | some r => match r with
      | .inl (o2, _) => some (o2, ())
      | .inr r => match r with
       | .inl (o3, o4, _) => match ltrees ((o3, (o4, ())), 0, ()) with
        | none => none
        | some (y5, _) => match fof (o3, y5, ()) with
         | none => none
         | some (y6, y7, _) => match (ieq y7 0) with
          | true => some ((ieq (dlen y6.2.1) (IntKind.wrap .i64 (o3 - (dlen y5)))), ())
          | false => some (false, ())
       | .inr _ => none
def lright [Lk] := fun v => Lk.f (lright_d v)
theorem lright_eq v : lright v = lright_d v := lock_eq _
-- archipelago/level.Edges
abbrev ledges_i : Items := [(.tmp 0, .dat (.prod (.int .i64) (.prod (.slice (.prod (.int .i64) (.prod (.int .i64) (.prod (.int .i64) (.prod .bool .unit))))) .unit)))]
abbrev ledges_o : Items := [(.tmp 0, .own 72 (.prod (.int .i64) (.prod (.int .i64) .unit)))]
abbrev ledges_r : List RS := [.one]
abbrev ledges_i0 : Items := [(.tmp 3, .own 72 (.prod (.int .i64) (.prod (.int .i64) .unit))), (.tmp 10, .dat (.slice (.prod (.int .i64) (.prod (.int .i64) (.prod (.int .i64) (.prod .bool .unit)))))), (.tmp 11, .di), (.tmp 12, .di)]
abbrev ledges_o0 : Outs := [(.exit 0, [(.tmp 3, .own 72 (.prod (.int .i64) (.prod (.int .i64) .unit)))])]
def ledges_s0 [Lk] : (List (Int × Int × Unit) × List (Int × Int × Int × Bool × Unit) × Int × Int × Unit) → Option ((List (Int × Int × Unit) × List (Int × Int × Int × Bool × Unit) × Int × Int × Unit) ⊕ (List (Int × Int × Unit) × Unit) ⊕ Unit) := fun (a0, a1, a2, a3, _) =>
 match (ilt a3 a2) with
 | true => match idx a1 a3 with
  | none => none
  | some x0 => match (fits ((dlen a0) + (dlen ([(x0.1, (x0.2.1, ()))] : List (Int × Int × Unit))))) with
   | true => some (.inl ((dapp a0 ([(x0.1, (x0.2.1, ()))] : List (Int × Int × Unit))), a1, a2, (IntKind.wrap .i64 (a3 + 1)), ()))
   | false => none
 | false => some (.inr (.inl (a0, ())))
def ledges_d [Lk] : ((Int × (List (Int × Int × Int × Bool × Unit)) × Unit) × Unit) → Option ((List (Int × Int × Unit) × Unit)) := fun (a0, _) =>
 match lright ((a0.1, (a0.2.1, ())), ()) with
 | none => none
 | some (y0, _) => match (!y0) with
  | true => some (([] : List (Int × Int × Unit)), ())
  | false => match iterL ledges_s0 many (([] : List (Int × Int × Unit)), a0.2.1, (dlen a0.2.1), 0, ()) with
   | none => none
   | some r => match r with
    | .inl (o1, _) => some (o1, ())
    | .inr _ => none
def ledges [Lk] := fun v => Lk.f (ledges_d v)
theorem ledges_eq v : ledges v = ledges_d v := lock_eq _
-- archipelago/span.asked
abbrev sasked_i : Items := [(.tmp 0, .di), (.tmp 1, .dat (.slice (.prod (.int .i64) (.prod (.int .i64) .unit))))]
abbrev sasked_o : Items := [(.tmp 0, .di)]
abbrev sasked_r : List RS := [.one]
abbrev sasked_i0 : Items := [(.tmp 0, .di), (.tmp 13, .dat (.slice (.prod (.int .i64) (.prod (.int .i64) .unit)))), (.tmp 14, .di), (.tmp 15, .di)]
abbrev sasked_o0 : Outs := [(.ret, [(.tmp 4, .di)]), (.exit 0, [])]
def sasked_s0 [Lk] : (Int × List (Int × Int × Unit) × Int × Int × Unit) → Option ((Int × List (Int × Int × Unit) × Int × Int × Unit) ⊕ (Int × Unit) ⊕ (Unit) ⊕ Unit) := fun (a0, a1, a2, a3, _) =>
 match (ilt a3 a2) with
 | true => match idx a1 a3 with
  | none => none
  | some x0 => match (ilt (imin x0.1 x0.2.1) 0) with
   | true => some (.inr (.inl (10, ())))
   | false => match (ile a0 (imax x0.1 x0.2.1)) with
    | true => some (.inr (.inl (10, ())))
    | false => some (.inl (a0, a1, a2, (IntKind.wrap .i64 (a3 + 1)), ()))
 | false => some (.inr (.inr (.inl ())))
def sasked_d [Lk] : (Int × List (Int × Int × Unit) × Unit) → Option ((Int × Unit)) := fun (a0, a1, _) =>
 match (ilt a0 1) with
 | true => some (1, ())
 | false => match (ilt 64 a0) with
  | true => some (1, ())
  | false => match iterL sasked_s0 many (a0, a1, (dlen a1), 0, ()) with
   | none => none
   | some r => match r with
    | .inl (o0, _) => some (o0, ())
    | .inr r => match r with
     | .inl _ => some (0, ())
     | .inr _ => none
def sasked [Lk] := fun v => Lk.f (sasked_d v)
theorem sasked_eq v : sasked v = sasked_d v := lock_eq _
-- archipelago/span.alone
abbrev salone_i : Items := [(.tmp 0, .di)]
abbrev salone_o : Items := [(.tmp 0, .own 3 (.int .i64))]
abbrev salone_r : List RS := [.one]
abbrev salone_i0 : Items := [(.tmp 3, .own 3 (.int .i64)), (.tmp 8, .di), (.tmp 9, .di)]
abbrev salone_o0 : Outs := [(.exit 0, [(.tmp 3, .own 3 (.int .i64))])]
def salone_s0 [Lk] : (List Int × Int × Int × Unit) → Option ((List Int × Int × Int × Unit) ⊕ (List Int × Unit) ⊕ Unit) := fun (a0, a1, a2, _) =>
 match (ilt a2 a1) with
 | true => match idx a0 a2 with
  | none => none
  | some x0 => some (.inl ((dset a0 (dnat a2) a2), a1, (IntKind.wrap .i64 (a2 + 1)), ()))
 | false => some (.inr (.inl (a0, ())))
def salone_d [Lk] : (Int × Unit) → Option ((List Int × Unit)) := fun (a0, _) =>
 match (fitsI a0 && fitsI a0 && ile a0 a0 && true) with
 | true => match iterL salone_s0 many ((drep (dnat a0) (0 : Int)), (dlen (drep (dnat a0) (0 : Int))), (0 : Int), ()) with
  | none => none
  | some r => match r with
   | .inl (o0, _) => some (o0, ())
   | .inr _ => none
 | false => none
def salone [Lk] := fun v => Lk.f (salone_d v)
theorem salone_eq v : salone v = salone_d v := lock_eq _
-- (archipelago/span.sets).least
abbrev sleast_i : Items := [(.tmp 0, .own 3 (.int .i64)), (.tmp 1, .di)]
abbrev sleast_o : Items := [(.obj 0, .own 3 (.int .i64)), (.tmp 0, .di)]
abbrev sleast_r : List RS := [.one]
abbrev sleast_i0 : Items := [(.obj 0, .own 3 (.int .i64)), (.tmp 0, .own' 0), (.tmp 1, .di)]
abbrev sleast_o0 : Outs := [(.exit 0, [(.obj 0, .own 3 (.int .i64)), (.tmp 1, .di)])]
def sleast_s0 [Lk] : (List Int × Int × Unit) → Option ((List Int × Int × Unit) ⊕ (List Int × Int × Unit) ⊕ Unit) := fun (a0, a1, _) =>
 match idx a0 a1 with
 | none => none
 | some x0 => match (!(ieq (dget a0 (dnat a1) 0) a1)) with
  | true => match idx a0 a1 with
   | none => none
   | some x1 => match idx a0 (dget a0 (dnat a1) 0) with
    | none => none
    | some x2 => match idx a0 a1 with
     | none => none
     | some x3 => match idx (dset a0 (dnat a1) (dget a0 (dnat (dget a0 (dnat a1) 0)) 0)) a1 with
      | none => none
      | some x4 => some (.inl ((dset a0 (dnat a1) (dget a0 (dnat (dget a0 (dnat a1) 0)) 0)), (dget (dset a0 (dnat a1) (dget a0 (dnat (dget a0 (dnat a1) 0)) 0)) (dnat a1) 0), ()))
  | false => some (.inr (.inl (a0, a1, ())))
def sleast_d [Lk] : (List Int × Int × Unit) → Option ((List Int × Int × Unit)) := fun (a0, a1, _) =>
 match iterL sleast_s0 many (a0, a1, ()) with
 | none => none
 | some r => match r with
  | .inl (o0, o1, _) => some (o0, o1, ())
  | .inr _ => none
def sleast [Lk] := fun v => Lk.f (sleast_d v)
theorem sleast_eq v : sleast v = sleast_d v := lock_eq _
-- (archipelago/span.sets).join
abbrev sjoin_i : Items := [(.tmp 0, .own 3 (.int .i64)), (.tmp 1, .di), (.tmp 2, .di)]
abbrev sjoin_o : Items := [(.obj 0, .own 3 (.int .i64)), (.tmp 0, .dat .bool)]
abbrev sjoin_r : List RS := [.one]
def sjoin_d [Lk] : (List Int × Int × Int × Unit) → Option ((List Int × Bool × Unit)) := fun (a0, a1, a2, _) =>
 match sleast (a0, a1, ()) with
 | none => none
 | some (y0, y1, _) => match sleast (y0, a2, ()) with
  | none => none
  | some (y2, y3, _) => match idx y2 (imax y1 y3) with
   | none => none
   | some x4 => some ((dset y2 (dnat (imax y1 y3)) (imin y1 y3)), (!(ieq y1 y3)), ())
def sjoin [Lk] := fun v => Lk.f (sjoin_d v)
theorem sjoin_eq v : sjoin v = sjoin_d v := lock_eq _
-- archipelago/span.each
abbrev eachJoin_i : Items := [(.tmp 0, .dat (.slice (.prod (.int .i64) (.prod (.int .i64) .unit)))), (.cap 1 0, .own 3 (.int .i64)), (.tmp 1, .bnd 95 0)]
abbrev eachJoin_o : Items := [(.obj 0, .own 3 (.int .i64)), (.tmp 0, .own 4 .bool)]
abbrev eachJoin_r : List RS := [.one]
abbrev eachJoin_i0 : Items := [(.obj 0, .own 3 (.int .i64)), (.tmp 1, .bnd 95 0), (.tmp 5, .own 4 .bool), (.tmp 8, .dat (.slice (.prod (.int .i64) (.prod (.int .i64) .unit)))), (.tmp 9, .di), (.tmp 10, .di)]
abbrev eachJoin_o0 : Outs := [(.exit 0, [(.obj 0, .own 3 (.int .i64)), (.tmp 5, .own 4 .bool)])]
def eachJoin_s0 [Lk] : (List Int × List Bool × List (Int × Int × Unit) × Int × Int × Unit) → Option ((List Int × List Bool × List (Int × Int × Unit) × Int × Int × Unit) ⊕ (List Int × List Bool × Unit) ⊕ Unit) := fun (a0, a1, a2, a3, a4, _) =>
 match (ilt a4 a3) with
 | true => match idx a2 a4 with
  | none => none
  | some x0 => match sjoin (a0, x0.1, x0.2.1, ()) with
   | none => none
   | some (y1, y2, _) => match (fits ((dlen a1) + (dlen ([y2] : List (Bool))))) with
    | true => some (.inl (y1, (dapp a1 ([y2] : List (Bool))), a2, a3, (IntKind.wrap .i64 (a4 + 1)), ()))
    | false => none
 | false => some (.inr (.inl (a0, a1, ())))
def eachJoin_d [Lk] : (List (Int × Int × Unit) × List Int × Unit) → Option ((List Int × List Bool × Unit)) := fun (a0, a1, _) =>
 match iterL eachJoin_s0 many (a1, ([] : List (Bool)), a0, (dlen a0), 0, ()) with
 | none => none
 | some r => match r with
  | .inl (o0, o1, _) => some (o0, o1, ())
  | .inr _ => none
def eachJoin [Lk] := fun v => Lk.f (eachJoin_d v)
theorem eachJoin_eq v : eachJoin v = eachJoin_d v := lock_eq _
-- (archipelago/span.sets).joins
abbrev sjoins_i : Items := [(.tmp 0, .own 3 (.int .i64)), (.tmp 1, .dat (.slice (.prod (.int .i64) (.prod (.int .i64) .unit))))]
abbrev sjoins_o : Items := [(.obj 0, .own 3 (.int .i64)), (.tmp 0, .own 4 .bool)]
abbrev sjoins_r : List RS := [.one]
def sjoins_d [Lk] : (List Int × List (Int × Int × Unit) × Unit) → Option ((List Int × List Bool × Unit)) := fun (a0, a1, _) =>
 match eachJoin (a1, a0, ()) with
 | none => none
 | some (y0, y1, _) => some (y0, y1, ())
def sjoins [Lk] := fun v => Lk.f (sjoins_d v)
theorem sjoins_eq v : sjoins v = sjoins_d v := lock_eq _
-- archipelago/span.Classes
abbrev sclasses_i : Items := [(.tmp 0, .di), (.tmp 1, .dat (.slice (.prod (.int .i64) (.prod (.int .i64) .unit))))]
abbrev sclasses_o : Items := [(.tmp 0, .own 3 (.int .i64)), (.tmp 1, .di)]
abbrev sclasses_r : List RS := [.one, .one]
abbrev sclasses_i0 : Items := [(.tmp 7, .own 3 (.int .i64)), (.tmp 21, .di), (.tmp 22, .di)]
abbrev sclasses_o0 : Outs := [(.exit 0, [(.tmp 7, .own 3 (.int .i64))])]
def sclasses_s0 [Lk] : (List Int × Int × Int × Unit) → Option ((List Int × Int × Int × Unit) ⊕ (List Int × Unit) ⊕ Unit) := fun (a0, a1, a2, _) =>
 match (ilt a2 a1) with
 | true => match sleast (a0, a2, ()) with
  | none => none
  | some (y0, y1, _) => match idx y0 a2 with
   | none => none
   | some x2 => some (.inl ((dset y0 (dnat a2) y1), a1, (IntKind.wrap .i64 (a2 + 1)), ()))
 | false => some (.inr (.inl (a0, ())))
def sclasses_d [Lk] : (Int × List (Int × Int × Unit) × Unit) → Option ((List Int × Int × Unit)) := fun (a0, a1, _) =>
 match sasked (a0, a1, ()) with
 | none => none
 | some (y0, _) => match (!(ieq y0 0)) with
  | true => some (([] : List (Int)), y0, ())
  | false => match salone (a0, ()) with
   | none => none
   | some (y1, _) => match sjoins (y1, a1, ()) with
    | none => none
    | some (y2, y3, _) => match iterL sclasses_s0 many (y2, (dlen y2), 0, ()) with
     | none => none
     | some r => match r with
      | .inl (o4, _) => some (o4, 0, ())
      | .inr _ => none
def sclasses [Lk] := fun v => Lk.f (sclasses_d v)
theorem sclasses_eq v : sclasses v = sclasses_d v := lock_eq _
-- archipelago/say.of
-- archipelago/say.fits
-- slices.IndexFunc[[]int,int]
-- slices.ContainsFunc[[]int,int]
-- archipelago/say.Encode
-- slices.IndexFunc[[]int,int]
-- slices.ContainsFunc[[]int,int]
-- (archipelago/say.classes).there
-- (archipelago/say.classes).count
-- (archipelago/say.classes).count
-- (archipelago/say.classes).answer
-- archipelago/say.Answers
-- archipelago/say.Answer
-- archipelago/wire.Number
-- archipelago/say.Decode
-- slices.Equal[[]int,int]
-- archipelago/say.Same
-- archipelago/archipelagoref19.Classes
abbrev classes19_i : Items := [(.tmp 0, .di), (.tmp 1, .dat (.slice (.prod (.int .i64) (.prod (.int .i64) .unit))))]
abbrev classes19_o : Items := [(.tmp 0, .own 3 (.int .i64))]
abbrev classes19_r : List RS := [.one]
abbrev classes19_i2 : Items := [(.tmp 0, .di), (.tmp 1, .dat (.slice (.prod (.int .i64) (.prod (.int .i64) .unit)))), (.tmp 5, .own 3 (.int .i64)), (.tmp 7, .dat .bool), (.tmp 8, .di)]
abbrev classes19_o2 : Outs := [(.exit 4, [(.tmp 0, .di), (.tmp 1, .dat (.slice (.prod (.int .i64) (.prod (.int .i64) .unit)))), (.tmp 5, .own 3 (.int .i64)), (.tmp 7, .dat .bool)])]
def classes19_s2 [Lk] : (Int × List (Int × Int × Unit) × List Int × Bool × Int × Unit) → Option ((Int × List (Int × Int × Unit) × List Int × Bool × Int × Unit) ⊕ (Int × List (Int × Int × Unit) × List Int × Bool × Unit) ⊕ Unit) := fun (a0, a1, a2, a3, a4, _) =>
 match (ilt a4 (dlen a1)) with
 | true => match idx a1 a4 with
  | none => none
  | some x0 => match idx a1 a4 with
   | none => none
   | some x1 => match (ilt x0.1 0) with
    | true => some (.inl (a0, a1, a2, a3, (IntKind.wrap .i64 (a4 + 1)), ()))
    | false => match (ilt x1.2.1 0) with
     | true => some (.inl (a0, a1, a2, a3, (IntKind.wrap .i64 (a4 + 1)), ()))
     | false => match (ile a0 x0.1) with
      | true => some (.inl (a0, a1, a2, a3, (IntKind.wrap .i64 (a4 + 1)), ()))
      | false => match (ile a0 x1.2.1) with
       | true => some (.inl (a0, a1, a2, a3, (IntKind.wrap .i64 (a4 + 1)), ()))
       | false => match idx a2 x0.1 with
        | none => none
        | some x2 => match idx a2 x1.2.1 with
         | none => none
         | some x3 => match (ieq (dget a2 (dnat x0.1) 0) (dget a2 (dnat x1.2.1) 0)) with
          | true => some (.inl (a0, a1, a2, a3, (IntKind.wrap .i64 (a4 + 1)), ()))
          | false => match idx a2 x0.1 with
           | none => none
           | some x4 => match idx a2 x1.2.1 with
            | none => none
            | some x5 => match idx a2 x0.1 with
             | none => none
             | some x6 => match idx (dset a2 (dnat x0.1) (imin (dget a2 (dnat x0.1) 0) (dget a2 (dnat x1.2.1) 0))) x1.2.1 with
              | none => none
              | some x7 => some (.inl (a0, a1, (dset (dset a2 (dnat x0.1) (imin (dget a2 (dnat x0.1) 0) (dget a2 (dnat x1.2.1) 0))) (dnat x1.2.1) (imin (dget a2 (dnat x0.1) 0) (dget a2 (dnat x1.2.1) 0))), true, (IntKind.wrap .i64 (a4 + 1)), ()))
 | false => some (.inr (.inl (a0, a1, a2, a3, ())))
abbrev classes19_i1 : Items := [(.tmp 0, .di), (.tmp 1, .dat (.slice (.prod (.int .i64) (.prod (.int .i64) .unit)))), (.tmp 5, .own 3 (.int .i64)), (.tmp 7, .dat .bool)]
abbrev classes19_o1 : Outs := [(.exit 2, [(.tmp 5, .own 3 (.int .i64))])]
def classes19_s1 [Lk] : (Int × List (Int × Int × Unit) × List Int × Bool × Unit) → Option ((Int × List (Int × Int × Unit) × List Int × Bool × Unit) ⊕ (List Int × Unit) ⊕ Unit) := fun (a0, a1, a2, a3, _) =>
 match a3 with
 | true => match iterL classes19_s2 many (a0, a1, a2, false, 0, ()) with
  | none => none
  | some r => match r with
   | .inl (o0, o1, o2, o3, _) => some (.inl (o0, o1, o2, o3, ()))
   | .inr _ => none
 | false => some (.inr (.inl (a2, ())))
abbrev classes19_i0 : Items := [(.tmp 0, .di), (.tmp 1, .dat (.slice (.prod (.int .i64) (.prod (.int .i64) .unit)))), (.tmp 5, .own 3 (.int .i64)), (.tmp 6, .di)]
abbrev classes19_o0 : Outs := [(.exit 0, [(.tmp 0, .di), (.tmp 1, .dat (.slice (.prod (.int .i64) (.prod (.int .i64) .unit)))), (.tmp 5, .own 3 (.int .i64))])]
def classes19_s0 [Lk] : (Int × List (Int × Int × Unit) × List Int × Int × Unit) → Option ((Int × List (Int × Int × Unit) × List Int × Int × Unit) ⊕ (Int × List (Int × Int × Unit) × List Int × Unit) ⊕ Unit) := fun (a0, a1, a2, a3, _) =>
 match (ilt a3 a0) with
 | true => match (fits ((dlen a2) + (dlen ([a3] : List (Int))))) with
  | true => some (.inl (a0, a1, (dapp a2 ([a3] : List (Int))), (IntKind.wrap .i64 (a3 + 1)), ()))
  | false => none
 | false => some (.inr (.inl (a0, a1, a2, ())))
def classes19_d [Lk] : (Int × List (Int × Int × Unit) × Unit) → Option ((List Int × Unit)) := fun (a0, a1, _) =>
 match iterL classes19_s0 many (a0, a1, ([] : List (Int)), 0, ()) with
 | none => none
 | some r => match r with
  | .inl (o0, o1, o2, _) => match iterL classes19_s1 many (o0, o1, o2, true, ()) with
   | none => none
   | some r => match r with
    | .inl (o3, _) => some (o3, ())
    | .inr _ => none
  | .inr _ => none
def classes19 [Lk] := fun v => Lk.f (classes19_d v)
theorem classes19_eq v : classes19 v = classes19_d v := lock_eq _
-- archipelago/archipelagoref21.Top
abbrev top21_i : Items := [(.tmp 0, .di)]
abbrev top21_o : Items := [(.tmp 0, .di)]
abbrev top21_r : List RS := [.one]
abbrev top21_i0 : Items := [(.tmp 3, .di), (.tmp 4, .di)]
abbrev top21_o0 : Outs := [(.exit 0, [(.tmp 3, .di)])]
def top21_s0 [Lk] : (Int × Int × Unit) → Option ((Int × Int × Unit) ⊕ (Int × Unit) ⊕ Unit) := fun (a0, a1, _) =>
 match (ilt 0 a1) with
 | true => match quo? .i64 a1 2 with
  | none => none
  | some x0 => some (.inl ((IntKind.wrap .i64 (a0 + 1)), x0, ()))
 | false => some (.inr (.inl (a0, ())))
def top21_d [Lk] : (Int × Unit) → Option ((Int × Unit)) := fun (a0, _) =>
 match (ilt a0 1) with
 | true => some (0, ())
 | false => match (ilt 64 a0) with
  | true => some (0, ())
  | false => match iterL top21_s0 many (0, (IntKind.wrap .i64 (a0 - 1)), ()) with
   | none => none
   | some r => match r with
    | .inl (o0, _) => some (o0, ())
    | .inr _ => none
def top21 [Lk] := fun v => Lk.f (top21_d v)
theorem top21_eq v : top21 v = top21_d v := lock_eq _
-- archipelago/archipelagoref21.Right
abbrev right21_i : Items := [(.tmp 0, .dat (.prod (.int .i64) (.prod (.slice (.prod (.int .i64) (.prod (.int .i64) (.prod (.int .i64) (.prod .bool .unit))))) .unit)))]
abbrev right21_o : Items := [(.tmp 0, .dat .bool)]
abbrev right21_r : List RS := [.one]
abbrev right21_i1 : Items := [(.tmp 1, .box 2), (.cell 0 0, .di), (.cell 0 1, .dat (.slice (.prod (.int .i64) (.prod (.int .i64) (.prod (.int .i64) (.prod .bool .unit)))))), (.tmp 3, .own 72 (.prod (.int .i64) (.prod (.int .i64) .unit))), (.tmp 6, .own 3 (.int .i64)), (.tmp 7, .di), (.tmp 8, .di)]
abbrev right21_o1 : Outs := [(.exit 2, [(.tmp 1, .box 2), (.cell 0 0, .di), (.cell 0 1, .dat (.slice (.prod (.int .i64) (.prod (.int .i64) (.prod (.int .i64) (.prod .bool .unit)))))), (.tmp 3, .own 72 (.prod (.int .i64) (.prod (.int .i64) .unit))), (.tmp 7, .di)])]
def right21_s1 [Lk] : (Int × List (Int × Int × Int × Bool × Unit) × List (Int × Int × Unit) × List Int × Int × Int × Unit) → Option ((Int × List (Int × Int × Int × Bool × Unit) × List (Int × Int × Unit) × List Int × Int × Int × Unit) ⊕ (Int × List (Int × Int × Int × Bool × Unit) × List (Int × Int × Unit) × Int × Unit) ⊕ Unit) := fun (a0, a1, a2, a3, a4, a5, _) =>
 match (ilt a5 a0) with
 | true => match idx a3 a5 with
  | none => none
  | some x0 => match (ieq (dget a3 (dnat a5) 0) a5) with
   | true => some (.inl (a0, a1, a2, a3, (IntKind.wrap .i64 (a4 + 1)), (IntKind.wrap .i64 (a5 + 1)), ()))
   | false => some (.inl (a0, a1, a2, a3, a4, (IntKind.wrap .i64 (a5 + 1)), ()))
 | false => some (.inr (.inl (a0, a1, a2, a4, ())))
abbrev right21_i0 : Items := [(.tmp 1, .box 2), (.cell 0 0, .di), (.cell 0 1, .dat (.slice (.prod (.int .i64) (.prod (.int .i64) (.prod (.int .i64) (.prod .bool .unit)))))), (.tmp 3, .own 72 (.prod (.int .i64) (.prod (.int .i64) .unit))), (.tmp 4, .di)]
abbrev right21_o0 : Outs := [(.ret, [(.tmp 2, .dat .bool)]), (.exit 0, [(.tmp 1, .box 2), (.cell 0 0, .di), (.cell 0 1, .dat (.slice (.prod (.int .i64) (.prod (.int .i64) (.prod (.int .i64) (.prod .bool .unit)))))), (.tmp 3, .own 72 (.prod (.int .i64) (.prod (.int .i64) .unit)))])]
def right21_s0 [Lk] : (Int × List (Int × Int × Int × Bool × Unit) × List (Int × Int × Unit) × Int × Unit) → Option ((Int × List (Int × Int × Int × Bool × Unit) × List (Int × Int × Unit) × Int × Unit) ⊕ (Bool × Unit) ⊕ (Int × List (Int × Int × Int × Bool × Unit) × List (Int × Int × Unit) × Unit) ⊕ Unit) := fun (a0, a1, a2, a3, _) =>
 match (ilt a3 (dlen a1)) with
 | true => match idx a1 a3 with
  | none => none
  | some x0 => match (ilt x0.1 0) with
   | true => some (.inr (.inl (false, ())))
   | false => match (ile x0.2.1 x0.1) with
    | true => some (.inr (.inl (false, ())))
    | false => match (ile a0 x0.2.1) with
     | true => some (.inr (.inl (false, ())))
     | false => match (ilt x0.2.2.1 0) with
      | true => some (.inr (.inl (false, ())))
      | false => match top21 (a0, ()) with
       | none => none
       | some (y1, _) => match (ilt y1 x0.2.2.1) with
        | true => some (.inr (.inl (false, ())))
        | false => match (ilt 0 a3) with
         | true => match idx a1 (IntKind.wrap .i64 (a3 - 1)) with
          | none => none
          | some x2 => match (ilt x0.1 x2.1) with
           | true => some (.inr (.inl (false, ())))
           | false => match idx a1 (IntKind.wrap .i64 (a3 - 1)) with
            | none => none
            | some x3 => match (ieq x3.1 x0.1) with
             | true => match idx a1 (IntKind.wrap .i64 (a3 - 1)) with
              | none => none
              | some x4 => match (ile x0.2.1 x4.2.1) with
               | true => some (.inr (.inl (false, ())))
               | false => match x0.2.2.2.1 with
                | true => match (fits ((dlen a2) + (dlen ([(x0.1, (x0.2.1, ()))] : List (Int × Int × Unit))))) with
                 | true => some (.inl (a0, a1, (dapp a2 ([(x0.1, (x0.2.1, ()))] : List (Int × Int × Unit))), (IntKind.wrap .i64 (a3 + 1)), ()))
                 | false => none
                | false => some (.inl (a0, a1, a2, (IntKind.wrap .i64 (a3 + 1)), ()))
             | false => match x0.2.2.2.1 with
              | true => match (fits ((dlen a2) + (dlen ([(x0.1, (x0.2.1, ()))] : List (Int × Int × Unit))))) with
               | true => some (.inl (a0, a1, (dapp a2 ([(x0.1, (x0.2.1, ()))] : List (Int × Int × Unit))), (IntKind.wrap .i64 (a3 + 1)), ()))
               | false => none
              | false => some (.inl (a0, a1, a2, (IntKind.wrap .i64 (a3 + 1)), ()))
         | false => match x0.2.2.2.1 with
          | true => match (fits ((dlen a2) + (dlen ([(x0.1, (x0.2.1, ()))] : List (Int × Int × Unit))))) with
           | true => some (.inl (a0, a1, (dapp a2 ([(x0.1, (x0.2.1, ()))] : List (Int × Int × Unit))), (IntKind.wrap .i64 (a3 + 1)), ()))
           | false => none
          | false => some (.inl (a0, a1, a2, (IntKind.wrap .i64 (a3 + 1)), ()))
 | false => some (.inr (.inr (.inl (a0, a1, a2, ()))))
def right21_d [Lk] : ((Int × (List (Int × Int × Int × Bool × Unit)) × Unit) × Unit) → Option ((Bool × Unit)) := fun (a0, _) =>
 match (ilt a0.1 1) with
 | true => some (false, ())
 | false => match (ilt 64 a0.1) with
  | true => some (false, ())
  | false => match (ilt 400 (dlen a0.2.1)) with
   | true => some (false, ())
   | false => match iterL right21_s0 many (a0.1, a0.2.1, ([] : List (Int × Int × Unit)), 0, ()) with
    | none => none
    | some r => match r with
     | .inl (o0, _) => some (o0, ())
     | .inr r => match r with
      | .inl (o1, o2, o3, _) => match classes19 (o1, o3, ()) with
       | none => none
       | some (y4, _) => match iterL right21_s1 many (o1, o2, o3, y4, 0, 0, ()) with
        | none => none
        | some r => match r with
         | .inl (o5, o6, o7, o8, _) => some ((ieq o8 (IntKind.wrap .i64 (o5 - (dlen o7)))), ())
         | .inr _ => none
      | .inr _ => none
def right21 [Lk] := fun v => Lk.f (right21_d v)
theorem right21_eq v : right21 v = right21_d v := lock_eq _
-- archipelago/archipelagoref21.Edges
abbrev edges21_i : Items := [(.tmp 0, .dat (.prod (.int .i64) (.prod (.slice (.prod (.int .i64) (.prod (.int .i64) (.prod (.int .i64) (.prod .bool .unit))))) .unit)))]
abbrev edges21_o : Items := [(.tmp 0, .own 72 (.prod (.int .i64) (.prod (.int .i64) .unit)))]
abbrev edges21_r : List RS := [.one]
abbrev edges21_i0 : Items := [(.tmp 1, .box 2), (.cell 0 0, .di), (.cell 0 1, .dat (.slice (.prod (.int .i64) (.prod (.int .i64) (.prod (.int .i64) (.prod .bool .unit)))))), (.tmp 3, .own 72 (.prod (.int .i64) (.prod (.int .i64) .unit))), (.tmp 4, .di)]
abbrev edges21_o0 : Outs := [(.exit 0, [(.tmp 3, .own 72 (.prod (.int .i64) (.prod (.int .i64) .unit)))])]
def edges21_s0 [Lk] : (Int × List (Int × Int × Int × Bool × Unit) × List (Int × Int × Unit) × Int × Unit) → Option ((Int × List (Int × Int × Int × Bool × Unit) × List (Int × Int × Unit) × Int × Unit) ⊕ (List (Int × Int × Unit) × Unit) ⊕ Unit) := fun (a0, a1, a2, a3, _) =>
 match (ilt a3 (dlen a1)) with
 | true => match idx a1 a3 with
  | none => none
  | some x0 => match idx a1 a3 with
   | none => none
   | some x1 => match (fits ((dlen a2) + (dlen ([(x0.1, (x1.2.1, ()))] : List (Int × Int × Unit))))) with
    | true => some (.inl (a0, a1, (dapp a2 ([(x0.1, (x1.2.1, ()))] : List (Int × Int × Unit))), (IntKind.wrap .i64 (a3 + 1)), ()))
    | false => none
 | false => some (.inr (.inl (a2, ())))
def edges21_d [Lk] : ((Int × (List (Int × Int × Int × Bool × Unit)) × Unit) × Unit) → Option ((List (Int × Int × Unit) × Unit)) := fun (a0, _) =>
 match right21 ((a0.1, (a0.2.1, ())), ()) with
 | none => none
 | some (y0, _) => match (!y0) with
  | true => some (([] : List (Int × Int × Unit)), ())
  | false => match iterL edges21_s0 many (a0.1, a0.2.1, ([] : List (Int × Int × Unit)), 0, ()) with
   | none => none
   | some r => match r with
    | .inl (o1, _) => some (o1, ())
    | .inr _ => none
def edges21 [Lk] := fun v => Lk.f (edges21_d v)
theorem edges21_eq v : edges21 v = edges21_d v := lock_eq _
-- archipelago/archipelagoref18.in
-- archipelago/archipelagoref18.Token
-- archipelago/archipelagoref18.Arc
-- archipelago/archipelagoref18.Make
-- archipelago/archipelagoref18.stands
-- archipelago/archipelagoref18.tree
-- archipelago/archipelagoref13.Place
-- archipelago/archipelagoref13.Right
-- archipelago/archipelagoref13.From
-- archipelago/archipelagoref13.Plain
-- archipelago/archipelagoref14.Lists
-- archipelago/archipelagoref18.Right
-- archipelago/archipelagoref18.place
-- archipelago/archipelagoref18.put
-- archipelago/archipelagoref18.without
end
end Go.Pev
end
section
namespace Go.Pev
set_option maxRecDepth 100000
noncomputable section
attribute [local irreducible] fitsR fitsIR idxR sublR iltR ileR ieqR quoR remR shlR shrR cloneR iterO many IntKind.wrap dlen dset dget dapp dtake dcut drep dnat dclear imin imax lookupM storeM
-- archipelago/archipelagoref18.Link
-- archipelago/archipelagoref11.Same
abbrev same11_i : Items := [(.tmp 0, .dat (.slice (.prod (.int .i64) (.prod (.int .i64) .unit)))), (.tmp 1, .dat (.slice (.prod (.int .i64) (.prod (.int .i64) .unit))))]
abbrev same11_o : Items := [(.tmp 0, .dat .bool)]
abbrev same11_r : List RS := [.one]
abbrev same11_i0 : Items := [(.tmp 0, .dat (.slice (.prod (.int .i64) (.prod (.int .i64) .unit)))), (.tmp 1, .dat (.slice (.prod (.int .i64) (.prod (.int .i64) .unit)))), (.tmp 5, .di)]
abbrev same11_o0 : Outs := [(.ret, [(.tmp 4, .dat .bool)]), (.exit 0, [])]
def same11_s0 [Lk] : (List (Int × Int × Unit) × List (Int × Int × Unit) × Int × Unit) → Option ((List (Int × Int × Unit) × List (Int × Int × Unit) × Int × Unit) ⊕ (Bool × Unit) ⊕ (Unit) ⊕ Unit) := fun (a0, a1, a2, _) =>
 match (ilt a2 (dlen a0)) with
 | true => match idx a0 a2 with
  | none => none
  | some x0 => match idx a1 a2 with
   | none => none
   | some x1 => match (!(ieq x0.1 x1.1 && (ieq x0.2.1 x1.2.1 && true))) with
    | true => some (.inr (.inl (false, ())))
    | false => some (.inl (a0, a1, (IntKind.wrap .i64 (a2 + 1)), ()))
 | false => some (.inr (.inr (.inl ())))
def same11_d [Lk] : (List (Int × Int × Unit) × List (Int × Int × Unit) × Unit) → Option ((Bool × Unit)) := fun (a0, a1, _) =>
 match (!(ieq (dlen a0) (dlen a1))) with
 | true => some (false, ())
 | false => match iterL same11_s0 many (a0, a1, 0, ()) with
  | none => none
  | some r => match r with
   | .inl (o0, _) => some (o0, ())
   | .inr r => match r with
    | .inl _ => some (true, ())
    | .inr _ => none
def same11 [Lk] := fun v => Lk.f (same11_d v)
theorem same11_eq v : same11 v = same11_d v := lock_eq _
-- archipelago/tour.Of
abbrev tof_i : Items := [(.tmp 0, .dat (.prod (.int .i64) (.prod (.slice (.slice (.int .i64))) .unit))), (.tmp 1, .di)]
abbrev tof_o : Items := [(.tmp 0, .di)]
abbrev tof_r : List RS := [.one]
def tof_d [Lk] : ((Int × (List (List Int)) × Unit) × Int × Unit) → Option ((Int × Unit)) := fun (a0, a1, _) =>
 match tin (a0.1, a1, ()) with
 | none => none
 | some (y0, _) => match (!y0) with
  | true => some ((-1 : Int), ())
  | false => match tright ((a0.1, (a0.2.1, ())), ()) with
   | none => none
   | some (y1, _) => match (!y1) with
    | true => some ((-1 : Int), ())
    | false => match tplace ((a0.1, (a0.2.1, ())), a1, ()) with
     | none => none
     | some (y2, _) => some (y2, ())
def tof [Lk] := fun v => Lk.f (tof_d v)
theorem tof_eq v : tof v = tof_d v := lock_eq _
-- archipelago/forest.Least
abbrev fleast_i : Items := [(.tmp 0, .dat (.prod (.int .i64) (.prod (.slice (.slice (.int .i64))) .unit))), (.tmp 1, .di)]
abbrev fleast_o : Items := [(.tmp 0, .di), (.tmp 1, .di)]
abbrev fleast_r : List RS := [.one, .one]
def fleast_d [Lk] : ((Int × (List (List Int)) × Unit) × Int × Unit) → Option ((Int × Int × Unit)) := fun (a0, a1, _) =>
 match fthere ((a0.1, (a0.2.1, ())), ([a1] : List (Int)), ()) with
 | none => none
 | some (y0, _) => match (!(ieq y0 0)) with
  | true => some (0, y0, ())
  | false => match tof ((a0.1, (a0.2.1, ())), a1, ()) with
   | none => none
   | some (y1, _) => match idx a0.2.1 y1 with
    | none => none
    | some x2 => match idx x2 0 with
     | none => none
     | some x3 => some (x3, 0, ())
def fleast [Lk] := fun v => Lk.f (fleast_d v)
theorem fleast_eq v : fleast v = fleast_d v := lock_eq _
-- archipelago/archipelagoref19.there
-- archipelago/archipelagoref19.Links
-- archipelago/archipelagoref19.Of
-- archipelago/archipelagoref20.asked
abbrev asked20_i : Items := [(.tmp 0, .di), (.tmp 1, .dat (.slice (.prod (.int .i64) (.prod (.int .i64) .unit))))]
abbrev asked20_o : Items := [(.tmp 0, .di)]
abbrev asked20_r : List RS := [.one]
abbrev asked20_i0 : Items := [(.tmp 0, .di), (.tmp 1, .dat (.slice (.prod (.int .i64) (.prod (.int .i64) .unit)))), (.tmp 5, .di)]
abbrev asked20_o0 : Outs := [(.ret, [(.tmp 4, .di)]), (.exit 0, [])]
def asked20_s0 [Lk] : (Int × List (Int × Int × Unit) × Int × Unit) → Option ((Int × List (Int × Int × Unit) × Int × Unit) ⊕ (Int × Unit) ⊕ (Unit) ⊕ Unit) := fun (a0, a1, a2, _) =>
 match (ilt a2 (dlen a1)) with
 | true => match idx a1 a2 with
  | none => none
  | some x0 => match (ilt x0.1 0) with
   | true => some (.inr (.inl (10, ())))
   | false => match idx a1 a2 with
    | none => none
    | some x1 => match (ile a0 x1.1) with
     | true => some (.inr (.inl (10, ())))
     | false => match idx a1 a2 with
      | none => none
      | some x2 => match (ilt x2.2.1 0) with
       | true => some (.inr (.inl (10, ())))
       | false => match idx a1 a2 with
        | none => none
        | some x3 => match (ile a0 x3.2.1) with
         | true => some (.inr (.inl (10, ())))
         | false => some (.inl (a0, a1, (IntKind.wrap .i64 (a2 + 1)), ()))
 | false => some (.inr (.inr (.inl ())))
def asked20_d [Lk] : (Int × List (Int × Int × Unit) × Unit) → Option ((Int × Unit)) := fun (a0, a1, _) =>
 match (ilt a0 1) with
 | true => some (1, ())
 | false => match (ilt 64 a0) with
  | true => some (1, ())
  | false => match iterL asked20_s0 many (a0, a1, 0, ()) with
   | none => none
   | some r => match r with
    | .inl (o0, _) => some (o0, ())
    | .inr r => match r with
     | .inl _ => some (0, ())
     | .inr _ => none
def asked20 [Lk] := fun v => Lk.f (asked20_d v)
theorem asked20_eq v : asked20 v = asked20_d v := lock_eq _
-- archipelago/archipelagoref20.Classes
abbrev classes20_i : Items := [(.tmp 0, .di), (.tmp 1, .dat (.slice (.prod (.int .i64) (.prod (.int .i64) .unit))))]
abbrev classes20_o : Items := [(.tmp 0, .own 3 (.int .i64)), (.tmp 1, .di)]
abbrev classes20_r : List RS := [.one, .one]
def classes20_d [Lk] : (Int × List (Int × Int × Unit) × Unit) → Option ((List Int × Int × Unit)) := fun (a0, a1, _) =>
 match asked20 (a0, a1, ()) with
 | none => none
 | some (y0, _) => match (!(ieq y0 0)) with
  | true => some (([] : List (Int)), y0, ())
  | false => match classes19 (a0, a1, ()) with
   | none => none
   | some (y1, _) => some (y1, 0, ())
def classes20 [Lk] := fun v => Lk.f (classes20_d v)
theorem classes20_eq v : classes20 v = classes20_d v := lock_eq _
-- archipelago/archipelagoref20.Count
-- archipelago/archipelagoref20.Choose
-- archipelago/archipelagoref21.Find
abbrev find21_i : Items := [(.tmp 0, .dat (.prod (.int .i64) (.prod (.slice (.prod (.int .i64) (.prod (.int .i64) (.prod (.int .i64) (.prod .bool .unit))))) .unit))), (.tmp 1, .di), (.tmp 2, .di)]
abbrev find21_o : Items := [(.tmp 0, .di)]
abbrev find21_r : List RS := [.one]
abbrev find21_i0 : Items := [(.tmp 1, .di), (.tmp 2, .di), (.tmp 3, .box 2), (.cell 0 0, .di), (.cell 0 1, .dat (.slice (.prod (.int .i64) (.prod (.int .i64) (.prod (.int .i64) (.prod .bool .unit)))))), (.tmp 7, .di)]
abbrev find21_o0 : Outs := [(.ret, [(.tmp 6, .di)]), (.exit 0, [])]
def find21_s0 [Lk] : (Int × Int × Int × List (Int × Int × Int × Bool × Unit) × Int × Unit) → Option ((Int × Int × Int × List (Int × Int × Int × Bool × Unit) × Int × Unit) ⊕ (Int × Unit) ⊕ (Unit) ⊕ Unit) := fun (a0, a1, a2, a3, a4, _) =>
 match (ilt a4 (dlen a3)) with
 | true => match idx a3 a4 with
  | none => none
  | some x0 => match (ieq x0.1 (imin a0 a1)) with
   | true => match idx a3 a4 with
    | none => none
    | some x1 => match (ieq x1.2.1 (imax a0 a1)) with
     | true => some (.inr (.inl (a4, ())))
     | false => some (.inl (a0, a1, a2, a3, (IntKind.wrap .i64 (a4 + 1)), ()))
   | false => some (.inl (a0, a1, a2, a3, (IntKind.wrap .i64 (a4 + 1)), ()))
 | false => some (.inr (.inr (.inl ())))
def find21_d [Lk] : ((Int × (List (Int × Int × Int × Bool × Unit)) × Unit) × Int × Int × Unit) → Option ((Int × Unit)) := fun (a0, a1, a2, _) =>
 match right21 ((a0.1, (a0.2.1, ())), ()) with
 | none => none
 | some (y0, _) => match (!y0) with
  | true => some ((-1 : Int), ())
  | false => match iterL find21_s0 many (a1, a2, a0.1, a0.2.1, 0, ()) with
   | none => none
   | some r => match r with
    | .inl (o1, _) => some (o1, ())
    | .inr r => match r with
     | .inl _ => some ((-1 : Int), ())
     | .inr _ => none
def find21 [Lk] := fun v => Lk.f (find21_d v)
theorem find21_eq v : find21 v = find21_d v := lock_eq _
-- archipelago/archipelagoref21.Trees
abbrev trees21_i : Items := [(.tmp 0, .dat (.prod (.int .i64) (.prod (.slice (.prod (.int .i64) (.prod (.int .i64) (.prod (.int .i64) (.prod .bool .unit))))) .unit))), (.tmp 1, .di)]
abbrev trees21_o : Items := [(.tmp 0, .own 72 (.prod (.int .i64) (.prod (.int .i64) .unit)))]
abbrev trees21_r : List RS := [.one]
abbrev trees21_i0 : Items := [(.tmp 1, .di), (.tmp 2, .box 2), (.cell 0 0, .di), (.cell 0 1, .dat (.slice (.prod (.int .i64) (.prod (.int .i64) (.prod (.int .i64) (.prod .bool .unit)))))), (.tmp 5, .own 72 (.prod (.int .i64) (.prod (.int .i64) .unit))), (.tmp 6, .di)]
abbrev trees21_o0 : Outs := [(.exit 0, [(.tmp 5, .own 72 (.prod (.int .i64) (.prod (.int .i64) .unit)))])]
def trees21_s0 [Lk] : (Int × Int × List (Int × Int × Int × Bool × Unit) × List (Int × Int × Unit) × Int × Unit) → Option ((Int × Int × List (Int × Int × Int × Bool × Unit) × List (Int × Int × Unit) × Int × Unit) ⊕ (List (Int × Int × Unit) × Unit) ⊕ Unit) := fun (a0, a1, a2, a3, a4, _) =>
 match (ilt a4 (dlen a2)) with
 | true => match idx a2 a4 with
  | none => none
  | some x0 => match x0.2.2.2.1 with
   | true => match idx a2 a4 with
    | none => none
    | some x1 => match (ile a0 x1.2.2.1) with
     | true => match idx a2 a4 with
      | none => none
      | some x2 => match idx a2 a4 with
       | none => none
       | some x3 => match (fits ((dlen a3) + (dlen ([(x2.1, (x3.2.1, ()))] : List (Int × Int × Unit))))) with
        | true => some (.inl (a0, a1, a2, (dapp a3 ([(x2.1, (x3.2.1, ()))] : List (Int × Int × Unit))), (IntKind.wrap .i64 (a4 + 1)), ()))
        | false => none
     | false => some (.inl (a0, a1, a2, a3, (IntKind.wrap .i64 (a4 + 1)), ()))
   | false => some (.inl (a0, a1, a2, a3, (IntKind.wrap .i64 (a4 + 1)), ()))
 | false => some (.inr (.inl (a3, ())))
def trees21_d [Lk] : ((Int × (List (Int × Int × Int × Bool × Unit)) × Unit) × Int × Unit) → Option ((List (Int × Int × Unit) × Unit)) := fun (a0, a1, _) =>
 match iterL trees21_s0 many (a1, a0.1, a0.2.1, ([] : List (Int × Int × Unit)), 0, ()) with
 | none => none
 | some r => match r with
  | .inl (o0, _) => some (o0, ())
  | .inr _ => none
def trees21 [Lk] := fun v => Lk.f (trees21_d v)
theorem trees21_eq v : trees21 v = trees21_d v := lock_eq _
-- archipelago/archipelagoref21.Forest
-- archipelago/archipelagoref21.Same
abbrev same21_i : Items := [(.tmp 0, .dat (.prod (.int .i64) (.prod (.slice (.prod (.int .i64) (.prod (.int .i64) (.prod (.int .i64) (.prod .bool .unit))))) .unit))), (.tmp 1, .dat (.prod (.int .i64) (.prod (.slice (.prod (.int .i64) (.prod (.int .i64) (.prod (.int .i64) (.prod .bool .unit))))) .unit)))]
abbrev same21_o : Items := [(.tmp 0, .dat .bool)]
abbrev same21_r : List RS := [.one]
abbrev same21_i0 : Items := [(.tmp 2, .box 2), (.cell 0 0, .di), (.cell 0 1, .dat (.slice (.prod (.int .i64) (.prod (.int .i64) (.prod (.int .i64) (.prod .bool .unit)))))), (.tmp 3, .box 2), (.cell 1 0, .di), (.cell 1 1, .dat (.slice (.prod (.int .i64) (.prod (.int .i64) (.prod (.int .i64) (.prod .bool .unit)))))), (.tmp 5, .di)]
abbrev same21_o0 : Outs := [(.ret, [(.tmp 4, .dat .bool)]), (.exit 0, [])]
def same21_s0 [Lk] : (Int × List (Int × Int × Int × Bool × Unit) × Int × List (Int × Int × Int × Bool × Unit) × Int × Unit) → Option ((Int × List (Int × Int × Int × Bool × Unit) × Int × List (Int × Int × Int × Bool × Unit) × Int × Unit) ⊕ (Bool × Unit) ⊕ (Unit) ⊕ Unit) := fun (a0, a1, a2, a3, a4, _) =>
 match (ilt a4 (dlen a1)) with
 | true => match idx a1 a4 with
  | none => none
  | some x0 => match idx a3 a4 with
   | none => none
   | some x1 => match (!(ieq x0.1 x1.1 && (ieq x0.2.1 x1.2.1 && (ieq x0.2.2.1 x1.2.2.1 && ((x0.2.2.2.1 == x1.2.2.2.1) && true))))) with
    | true => some (.inr (.inl (false, ())))
    | false => some (.inl (a0, a1, a2, a3, (IntKind.wrap .i64 (a4 + 1)), ()))
 | false => some (.inr (.inr (.inl ())))
def same21_d [Lk] : ((Int × (List (Int × Int × Int × Bool × Unit)) × Unit) × (Int × (List (Int × Int × Int × Bool × Unit)) × Unit) × Unit) → Option ((Bool × Unit)) := fun (a0, a1, _) =>
 match (!(ieq a0.1 a1.1)) with
 | true => some (false, ())
 | false => match (!(ieq (dlen a0.2.1) (dlen a1.2.1))) with
  | true => some (false, ())
  | false => match iterL same21_s0 many (a0.1, a0.2.1, a1.1, a1.2.1, 0, ()) with
   | none => none
   | some r => match r with
    | .inl (o0, _) => some (o0, ())
    | .inr r => match r with
     | .inl _ => some (true, ())
     | .inr _ => none
def same21 [Lk] := fun v => Lk.f (same21_d v)
theorem same21_eq v : same21 v = same21_d v := lock_eq _
-- archipelago/archipelagoref22.Has
-- archipelago/archipelagoref22.asked
-- archipelago/archipelagoref22.Plain
-- archipelago/archipelagoref22.New
-- archipelago/archipelagoref22.Fits
-- archipelago/archipelagoref22.Put
-- archipelago/archipelagoref22.Add
-- archipelago/archipelagoref22.Joined
-- archipelago/archipelagolaw27.alive
-- archipelago/archipelagolaw27.great
-- archipelago/archipelagolaw27.SayGrows
-- archipelago/grow.compare
abbrev gcompare_i : Items := [(.tmp 0, .dat (.prod (.int .i64) (.prod (.int .i64) .unit))), (.tmp 1, .dat (.prod (.int .i64) (.prod (.int .i64) .unit)))]
abbrev gcompare_o : Items := [(.tmp 0, .di)]
abbrev gcompare_r : List RS := [.one]
def gcompare_d [Lk] : ((Int × Int × Unit) × (Int × Int × Unit) × Unit) → Option ((Int × Unit)) := fun (a0, a1, _) =>
 match compareI (a0.1, a1.1, ()) with
 | none => none
 | some (y0, _) => match compareI (a0.2.1, a1.2.1, ()) with
  | none => none
  | some (y1, _) => match orI (([y0, y1] : List (Int)), ()) with
   | none => none
   | some (y2, _) => some (y2, ())
def gcompare [Lk] := fun v => Lk.f (gcompare_d v)
theorem gcompare_eq v : gcompare v = gcompare_d v := lock_eq _
-- slices.insertionSortCmpFunc[archipelago/api.Edge]
abbrev insE_i : Items := [(.tmp 0, .own 72 (.prod (.int .i64) (.prod (.int .i64) .unit))), (.tmp 1, .di), (.tmp 2, .di), (.tmp 3, .clo 43 [])]
abbrev insE_o : Items := [(.obj 0, .own 72 (.prod (.int .i64) (.prod (.int .i64) .unit)))]
abbrev insE_r : List RS := []
abbrev insE_i1 : Items := [(.obj 0, .own 72 (.prod (.int .i64) (.prod (.int .i64) .unit))), (.tmp 0, .own' 0), (.tmp 1, .di), (.tmp 2, .di), (.tmp 3, .clo 43 []), (.tmp 8, .di), (.tmp 9, .di)]
abbrev insE_o1 : Outs := [(.exit 2, [(.obj 0, .own 72 (.prod (.int .i64) (.prod (.int .i64) .unit))), (.tmp 0, .own' 0), (.tmp 1, .di), (.tmp 2, .di), (.tmp 3, .clo 43 []), (.tmp 8, .di)])]
def insE_s1 [Lk] : (List (Int × Int × Unit) × Int × Int × Int × Int × Unit) → Option ((List (Int × Int × Unit) × Int × Int × Int × Int × Unit) ⊕ (List (Int × Int × Unit) × Int × Int × Int × Unit) ⊕ Unit) := insG_s1 ((0, (0, ())) : (Int × Int × Unit)) gcompare
abbrev insE_i0 : Items := [(.obj 0, .own 72 (.prod (.int .i64) (.prod (.int .i64) .unit))), (.tmp 0, .own' 0), (.tmp 1, .di), (.tmp 2, .di), (.tmp 3, .clo 43 []), (.tmp 8, .di)]
abbrev insE_o0 : Outs := [(.exit 0, [(.obj 0, .own 72 (.prod (.int .i64) (.prod (.int .i64) .unit)))])]
def insE_s0 [Lk] : (List (Int × Int × Unit) × Int × Int × Int × Unit) → Option ((List (Int × Int × Unit) × Int × Int × Int × Unit) ⊕ (List (Int × Int × Unit) × Unit) ⊕ Unit) := insG_s0 ((0, (0, ())) : (Int × Int × Unit)) gcompare
def insE_d [Lk] : (List (Int × Int × Unit) × Int × Int × Unit) → Option ((List (Int × Int × Unit) × Unit)) := insG_d ((0, (0, ())) : (Int × Int × Unit)) gcompare
def insE [Lk] (v : (List (Int × Int × Unit) × Int × Int × Unit)) : Option ((List (Int × Int × Unit) × Unit)) := insG ((0, (0, ())) : (Int × Int × Unit)) gcompare v
theorem insE_eq v : insE v = insE_d v := lock_eq _
-- slices.siftDownCmpFunc[archipelago/api.Edge]
abbrev siftE_i : Items := [(.tmp 0, .own 72 (.prod (.int .i64) (.prod (.int .i64) .unit))), (.tmp 1, .di), (.tmp 2, .di), (.tmp 3, .di), (.tmp 4, .clo 43 [])]
abbrev siftE_o : Items := [(.obj 0, .own 72 (.prod (.int .i64) (.prod (.int .i64) .unit)))]
abbrev siftE_r : List RS := []
abbrev siftE_i0 : Items := [(.obj 0, .own 72 (.prod (.int .i64) (.prod (.int .i64) .unit))), (.tmp 0, .own' 0), (.tmp 2, .di), (.tmp 3, .di), (.tmp 4, .clo 43 []), (.tmp 10, .di)]
abbrev siftE_o0 : Outs := [(.exit 0, [(.obj 0, .own 72 (.prod (.int .i64) (.prod (.int .i64) .unit)))]), (.ret, [(.obj 0, .own 72 (.prod (.int .i64) (.prod (.int .i64) .unit)))])]
def siftE_s0 [Lk] : (List (Int × Int × Unit) × Int × Int × Int × Unit) → Option ((List (Int × Int × Unit) × Int × Int × Int × Unit) ⊕ (List (Int × Int × Unit) × Unit) ⊕ (List (Int × Int × Unit) × Unit) ⊕ Unit) := siftG_s0 ((0, (0, ())) : (Int × Int × Unit)) gcompare
def siftE_d [Lk] : (List (Int × Int × Unit) × Int × Int × Int × Unit) → Option ((List (Int × Int × Unit) × Unit)) := siftG_d ((0, (0, ())) : (Int × Int × Unit)) gcompare
def siftE [Lk] (v : (List (Int × Int × Unit) × Int × Int × Int × Unit)) : Option ((List (Int × Int × Unit) × Unit)) := siftG ((0, (0, ())) : (Int × Int × Unit)) gcompare v
theorem siftE_eq v : siftE v = siftE_d v := lock_eq _
-- slices.heapSortCmpFunc[archipelago/api.Edge]
abbrev heapE_i : Items := [(.tmp 0, .own 72 (.prod (.int .i64) (.prod (.int .i64) .unit))), (.tmp 1, .di), (.tmp 2, .di), (.tmp 3, .clo 43 [])]
abbrev heapE_o : Items := [(.obj 0, .own 72 (.prod (.int .i64) (.prod (.int .i64) .unit)))]
abbrev heapE_r : List RS := []
abbrev heapE_i1 : Items := [(.obj 0, .own 72 (.prod (.int .i64) (.prod (.int .i64) .unit))), (.tmp 0, .own' 0), (.tmp 3, .clo 43 []), (.tmp 8, .di), (.tmp 9, .di), (.tmp 12, .di)]
abbrev heapE_o1 : Outs := [(.exit 2, [(.obj 0, .own 72 (.prod (.int .i64) (.prod (.int .i64) .unit)))])]
def heapE_s1 [Lk] : (List (Int × Int × Unit) × Int × Int × Int × Unit) → Option ((List (Int × Int × Unit) × Int × Int × Int × Unit) ⊕ (List (Int × Int × Unit) × Unit) ⊕ Unit) := heapG_s1 ((0, (0, ())) : (Int × Int × Unit)) gcompare
abbrev heapE_i0 : Items := [(.obj 0, .own 72 (.prod (.int .i64) (.prod (.int .i64) .unit))), (.tmp 0, .own' 0), (.tmp 3, .clo 43 []), (.tmp 8, .di), (.tmp 9, .di), (.tmp 10, .di), (.tmp 11, .di)]
abbrev heapE_o0 : Outs := [(.exit 0, [(.obj 0, .own 72 (.prod (.int .i64) (.prod (.int .i64) .unit))), (.tmp 0, .own' 0), (.tmp 3, .clo 43 []), (.tmp 8, .di), (.tmp 9, .di), (.tmp 10, .di)])]
def heapE_s0 [Lk] : (List (Int × Int × Unit) × Int × Int × Int × Int × Unit) → Option ((List (Int × Int × Unit) × Int × Int × Int × Int × Unit) ⊕ (List (Int × Int × Unit) × Int × Int × Int × Unit) ⊕ Unit) := heapG_s0 ((0, (0, ())) : (Int × Int × Unit)) gcompare
def heapE_d [Lk] : (List (Int × Int × Unit) × Int × Int × Unit) → Option ((List (Int × Int × Unit) × Unit)) := heapG_d ((0, (0, ())) : (Int × Int × Unit)) gcompare
def heapE [Lk] (v : (List (Int × Int × Unit) × Int × Int × Unit)) : Option ((List (Int × Int × Unit) × Unit)) := heapG ((0, (0, ())) : (Int × Int × Unit)) gcompare v
theorem heapE_eq v : heapE v = heapE_d v := lock_eq _
-- slices.breakPatternsCmpFunc[archipelago/api.Edge]
abbrev breakE_i : Items := [(.tmp 0, .own 72 (.prod (.int .i64) (.prod (.int .i64) .unit))), (.tmp 1, .di), (.tmp 2, .di), (.tmp 3, .clo 43 [])]
abbrev breakE_o : Items := [(.obj 0, .own 72 (.prod (.int .i64) (.prod (.int .i64) .unit)))]
abbrev breakE_r : List RS := []
abbrev breakE_i0 : Items := [(.obj 0, .own 72 (.prod (.int .i64) (.prod (.int .i64) .unit))), (.tmp 0, .own' 0), (.tmp 1, .di), (.tmp 8, .di), (.tmp 9, .box 1), (.cell 1 0, .dat (.int .u64)), (.tmp 10, .dat (.int .u64)), (.tmp 11, .di)]
abbrev breakE_o0 : Outs := [(.exit 0, [(.obj 0, .own 72 (.prod (.int .i64) (.prod (.int .i64) .unit)))])]
def breakE_s0 [Lk] : (List (Int × Int × Unit) × Int × Int × Int × Int × Int × Unit) → Option ((List (Int × Int × Unit) × Int × Int × Int × Int × Int × Unit) ⊕ (List (Int × Int × Unit) × Unit) ⊕ Unit) := breakG_s0 ((0, (0, ())) : (Int × Int × Unit)) gcompare
def breakE_d [Lk] : (List (Int × Int × Unit) × Int × Int × Unit) → Option ((List (Int × Int × Unit) × Unit)) := breakG_d ((0, (0, ())) : (Int × Int × Unit)) gcompare
def breakE [Lk] (v : (List (Int × Int × Unit) × Int × Int × Unit)) : Option ((List (Int × Int × Unit) × Unit)) := breakG ((0, (0, ())) : (Int × Int × Unit)) gcompare v
theorem breakE_eq v : breakE v = breakE_d v := lock_eq _
-- slices.order2CmpFunc[archipelago/api.Edge]
abbrev order2E_i : Items := [(.tmp 0, .own 72 (.prod (.int .i64) (.prod (.int .i64) .unit))), (.tmp 1, .di), (.tmp 2, .di), (.tmp 3, .box 1), (.cell 1 0, .di), (.tmp 4, .clo 43 [])]
abbrev order2E_o : Items := [(.obj 0, .own 72 (.prod (.int .i64) (.prod (.int .i64) .unit))), (.obj 1, .box 1), (.cell 1 0, .di), (.tmp 0, .di), (.tmp 1, .di)]
abbrev order2E_r : List RS := [.one, .one]
def order2E_d [Lk] : (List (Int × Int × Unit) × Int × Int × Int × Unit) → Option ((List (Int × Int × Unit) × Int × Int × Int × Unit)) := order2G_d ((0, (0, ())) : (Int × Int × Unit)) gcompare
def order2E [Lk] (v : (List (Int × Int × Unit) × Int × Int × Int × Unit)) : Option ((List (Int × Int × Unit) × Int × Int × Int × Unit)) := order2G ((0, (0, ())) : (Int × Int × Unit)) gcompare v
theorem order2E_eq v : order2E v = order2E_d v := lock_eq _
-- slices.medianCmpFunc[archipelago/api.Edge]
abbrev medianE_i : Items := [(.tmp 0, .own 72 (.prod (.int .i64) (.prod (.int .i64) .unit))), (.tmp 1, .di), (.tmp 2, .di), (.tmp 3, .di), (.tmp 4, .box 1), (.cell 1 0, .di), (.tmp 5, .clo 43 [])]
abbrev medianE_o : Items := [(.obj 0, .own 72 (.prod (.int .i64) (.prod (.int .i64) .unit))), (.obj 1, .box 1), (.cell 1 0, .di), (.tmp 0, .di)]
abbrev medianE_r : List RS := [.one]
def medianE_d [Lk] : (List (Int × Int × Unit) × Int × Int × Int × Int × Unit) → Option ((List (Int × Int × Unit) × Int × Int × Unit)) := medianG_d ((0, (0, ())) : (Int × Int × Unit)) gcompare
def medianE [Lk] (v : (List (Int × Int × Unit) × Int × Int × Int × Int × Unit)) : Option ((List (Int × Int × Unit) × Int × Int × Unit)) := medianG ((0, (0, ())) : (Int × Int × Unit)) gcompare v
theorem medianE_eq v : medianE v = medianE_d v := lock_eq _
-- slices.medianAdjacentCmpFunc[archipelago/api.Edge]
abbrev medAdjE_i : Items := [(.tmp 0, .own 72 (.prod (.int .i64) (.prod (.int .i64) .unit))), (.tmp 1, .di), (.tmp 2, .box 1), (.cell 1 0, .di), (.tmp 3, .clo 43 [])]
abbrev medAdjE_o : Items := [(.obj 0, .own 72 (.prod (.int .i64) (.prod (.int .i64) .unit))), (.obj 1, .box 1), (.cell 1 0, .di), (.tmp 0, .di)]
abbrev medAdjE_r : List RS := [.one]
def medAdjE_d [Lk] : (List (Int × Int × Unit) × Int × Int × Unit) → Option ((List (Int × Int × Unit) × Int × Int × Unit)) := medAdjG_d ((0, (0, ())) : (Int × Int × Unit)) gcompare
def medAdjE [Lk] (v : (List (Int × Int × Unit) × Int × Int × Unit)) : Option ((List (Int × Int × Unit) × Int × Int × Unit)) := medAdjG ((0, (0, ())) : (Int × Int × Unit)) gcompare v
theorem medAdjE_eq v : medAdjE v = medAdjE_d v := lock_eq _
-- slices.choosePivotCmpFunc[archipelago/api.Edge]
abbrev pivotE_i : Items := [(.tmp 0, .own 72 (.prod (.int .i64) (.prod (.int .i64) .unit))), (.tmp 1, .di), (.tmp 2, .di), (.tmp 3, .clo 43 [])]
abbrev pivotE_o : Items := [(.obj 0, .own 72 (.prod (.int .i64) (.prod (.int .i64) .unit))), (.tmp 0, .di), (.tmp 1, .di)]
abbrev pivotE_r : List RS := [.one, .one]
def pivotE_d [Lk] : (List (Int × Int × Unit) × Int × Int × Unit) → Option ((List (Int × Int × Unit) × Int × Int × Unit)) := pivotG_d ((0, (0, ())) : (Int × Int × Unit)) gcompare
def pivotE [Lk] (v : (List (Int × Int × Unit) × Int × Int × Unit)) : Option ((List (Int × Int × Unit) × Int × Int × Unit)) := pivotG ((0, (0, ())) : (Int × Int × Unit)) gcompare v
theorem pivotE_eq v : pivotE v = pivotE_d v := lock_eq _
-- slices.reverseRangeCmpFunc[archipelago/api.Edge]
abbrev revE_i : Items := [(.tmp 0, .own 72 (.prod (.int .i64) (.prod (.int .i64) .unit))), (.tmp 1, .di), (.tmp 2, .di), (.tmp 3, .clo 43 [])]
abbrev revE_o : Items := [(.obj 0, .own 72 (.prod (.int .i64) (.prod (.int .i64) .unit)))]
abbrev revE_r : List RS := []
abbrev revE_i0 : Items := [(.obj 0, .own 72 (.prod (.int .i64) (.prod (.int .i64) .unit))), (.tmp 0, .own' 0), (.tmp 8, .di), (.tmp 9, .di)]
abbrev revE_o0 : Outs := [(.exit 0, [(.obj 0, .own 72 (.prod (.int .i64) (.prod (.int .i64) .unit)))])]
def revE_s0 [Lk] : (List (Int × Int × Unit) × Int × Int × Unit) → Option ((List (Int × Int × Unit) × Int × Int × Unit) ⊕ (List (Int × Int × Unit) × Unit) ⊕ Unit) := revG_s0 ((0, (0, ())) : (Int × Int × Unit)) gcompare
def revE_d [Lk] : (List (Int × Int × Unit) × Int × Int × Unit) → Option ((List (Int × Int × Unit) × Unit)) := revG_d ((0, (0, ())) : (Int × Int × Unit)) gcompare
def revE [Lk] (v : (List (Int × Int × Unit) × Int × Int × Unit)) : Option ((List (Int × Int × Unit) × Unit)) := revG ((0, (0, ())) : (Int × Int × Unit)) gcompare v
theorem revE_eq v : revE v = revE_d v := lock_eq _
-- slices.partialInsertionSortCmpFunc[archipelago/api.Edge]
abbrev partInsE_i : Items := [(.tmp 0, .own 72 (.prod (.int .i64) (.prod (.int .i64) .unit))), (.tmp 1, .di), (.tmp 2, .di), (.tmp 3, .clo 43 [])]
abbrev partInsE_o : Items := [(.obj 0, .own 72 (.prod (.int .i64) (.prod (.int .i64) .unit))), (.tmp 0, .dat .bool)]
abbrev partInsE_r : List RS := [.one]
abbrev partInsE_i3 : Items := [(.obj 0, .own 72 (.prod (.int .i64) (.prod (.int .i64) .unit))), (.tmp 0, .own' 0), (.tmp 1, .di), (.tmp 2, .di), (.tmp 3, .clo 43 []), (.tmp 9, .di), (.tmp 10, .di), (.tmp 12, .di)]
abbrev partInsE_o3 : Outs := [(.exit 6, [(.obj 0, .own 72 (.prod (.int .i64) (.prod (.int .i64) .unit))), (.tmp 0, .own' 0), (.tmp 1, .di), (.tmp 2, .di), (.tmp 3, .clo 43 []), (.tmp 9, .di), (.tmp 10, .di)])]
def partInsE_s3 [Lk] : (List (Int × Int × Unit) × Int × Int × Int × Int × Int × Unit) → Option ((List (Int × Int × Unit) × Int × Int × Int × Int × Int × Unit) ⊕ (List (Int × Int × Unit) × Int × Int × Int × Int × Unit) ⊕ Unit) := partInsG_s3 ((0, (0, ())) : (Int × Int × Unit)) gcompare
abbrev partInsE_i2 : Items := [(.obj 0, .own 72 (.prod (.int .i64) (.prod (.int .i64) .unit))), (.tmp 0, .own' 0), (.tmp 1, .di), (.tmp 2, .di), (.tmp 3, .clo 43 []), (.tmp 9, .di), (.tmp 10, .di), (.tmp 11, .di)]
abbrev partInsE_o2 : Outs := [(.exit 4, [(.obj 0, .own 72 (.prod (.int .i64) (.prod (.int .i64) .unit))), (.tmp 0, .own' 0), (.tmp 1, .di), (.tmp 2, .di), (.tmp 3, .clo 43 []), (.tmp 9, .di), (.tmp 10, .di)])]
def partInsE_s2 [Lk] : (List (Int × Int × Unit) × Int × Int × Int × Int × Int × Unit) → Option ((List (Int × Int × Unit) × Int × Int × Int × Int × Int × Unit) ⊕ (List (Int × Int × Unit) × Int × Int × Int × Int × Unit) ⊕ Unit) := partInsG_s2 ((0, (0, ())) : (Int × Int × Unit)) gcompare
abbrev partInsE_i1 : Items := [(.obj 0, .own 72 (.prod (.int .i64) (.prod (.int .i64) .unit))), (.tmp 0, .own' 0), (.tmp 1, .di), (.tmp 2, .di), (.tmp 3, .clo 43 []), (.tmp 9, .di), (.tmp 10, .di)]
abbrev partInsE_o1 : Outs := [(.exit 2, [(.obj 0, .own 72 (.prod (.int .i64) (.prod (.int .i64) .unit))), (.tmp 0, .own' 0), (.tmp 1, .di), (.tmp 2, .di), (.tmp 3, .clo 43 []), (.tmp 9, .di), (.tmp 10, .di)])]
def partInsE_s1 [Lk] : (List (Int × Int × Unit) × Int × Int × Int × Int × Unit) → Option ((List (Int × Int × Unit) × Int × Int × Int × Int × Unit) ⊕ (List (Int × Int × Unit) × Int × Int × Int × Int × Unit) ⊕ Unit) := partInsG_s1 ((0, (0, ())) : (Int × Int × Unit)) gcompare
abbrev partInsE_i0 : Items := [(.obj 0, .own 72 (.prod (.int .i64) (.prod (.int .i64) .unit))), (.tmp 0, .own' 0), (.tmp 1, .di), (.tmp 2, .di), (.tmp 3, .clo 43 []), (.tmp 9, .di), (.tmp 10, .di)]
abbrev partInsE_o0 : Outs := [(.ret, [(.obj 0, .own 72 (.prod (.int .i64) (.prod (.int .i64) .unit))), (.tmp 8, .dat .bool)]), (.exit 0, [(.obj 0, .own 72 (.prod (.int .i64) (.prod (.int .i64) .unit)))])]
def partInsE_s0 [Lk] : (List (Int × Int × Unit) × Int × Int × Int × Int × Unit) → Option ((List (Int × Int × Unit) × Int × Int × Int × Int × Unit) ⊕ (List (Int × Int × Unit) × Bool × Unit) ⊕ (List (Int × Int × Unit) × Unit) ⊕ Unit) := partInsG_s0 ((0, (0, ())) : (Int × Int × Unit)) gcompare
def partInsE_d [Lk] : (List (Int × Int × Unit) × Int × Int × Unit) → Option ((List (Int × Int × Unit) × Bool × Unit)) := partInsG_d ((0, (0, ())) : (Int × Int × Unit)) gcompare
def partInsE [Lk] (v : (List (Int × Int × Unit) × Int × Int × Unit)) : Option ((List (Int × Int × Unit) × Bool × Unit)) := partInsG ((0, (0, ())) : (Int × Int × Unit)) gcompare v
theorem partInsE_eq v : partInsE v = partInsE_d v := lock_eq _
-- slices.partitionEqualCmpFunc[archipelago/api.Edge]
abbrev partEqE_i : Items := [(.tmp 0, .own 72 (.prod (.int .i64) (.prod (.int .i64) .unit))), (.tmp 1, .di), (.tmp 2, .di), (.tmp 3, .di), (.tmp 4, .clo 43 [])]
abbrev partEqE_o : Items := [(.obj 0, .own 72 (.prod (.int .i64) (.prod (.int .i64) .unit))), (.tmp 0, .di)]
abbrev partEqE_r : List RS := [.one]
abbrev partEqE_i2 : Items := [(.obj 0, .own 72 (.prod (.int .i64) (.prod (.int .i64) .unit))), (.tmp 0, .own' 0), (.tmp 1, .di), (.tmp 4, .clo 43 []), (.tmp 11, .di), (.tmp 12, .di)]
abbrev partEqE_o2 : Outs := [(.exit 4, [(.obj 0, .own 72 (.prod (.int .i64) (.prod (.int .i64) .unit))), (.tmp 0, .own' 0), (.tmp 1, .di), (.tmp 4, .clo 43 []), (.tmp 11, .di), (.tmp 12, .di)])]
def partEqE_s2 [Lk] : (List (Int × Int × Unit) × Int × Int × Int × Unit) → Option ((List (Int × Int × Unit) × Int × Int × Int × Unit) ⊕ (List (Int × Int × Unit) × Int × Int × Int × Unit) ⊕ Unit) := partEqG_s2 ((0, (0, ())) : (Int × Int × Unit)) gcompare
abbrev partEqE_i1 : Items := [(.obj 0, .own 72 (.prod (.int .i64) (.prod (.int .i64) .unit))), (.tmp 0, .own' 0), (.tmp 1, .di), (.tmp 4, .clo 43 []), (.tmp 11, .di), (.tmp 12, .di)]
abbrev partEqE_o1 : Outs := [(.exit 2, [(.obj 0, .own 72 (.prod (.int .i64) (.prod (.int .i64) .unit))), (.tmp 0, .own' 0), (.tmp 1, .di), (.tmp 4, .clo 43 []), (.tmp 11, .di), (.tmp 12, .di)])]
def partEqE_s1 [Lk] : (List (Int × Int × Unit) × Int × Int × Int × Unit) → Option ((List (Int × Int × Unit) × Int × Int × Int × Unit) ⊕ (List (Int × Int × Unit) × Int × Int × Int × Unit) ⊕ Unit) := partEqG_s1 ((0, (0, ())) : (Int × Int × Unit)) gcompare
abbrev partEqE_i0 : Items := [(.obj 0, .own 72 (.prod (.int .i64) (.prod (.int .i64) .unit))), (.tmp 0, .own' 0), (.tmp 1, .di), (.tmp 4, .clo 43 []), (.tmp 11, .di), (.tmp 12, .di)]
abbrev partEqE_o0 : Outs := [(.exit 0, [(.obj 0, .own 72 (.prod (.int .i64) (.prod (.int .i64) .unit))), (.tmp 11, .di)])]
def partEqE_s0 [Lk] : (List (Int × Int × Unit) × Int × Int × Int × Unit) → Option ((List (Int × Int × Unit) × Int × Int × Int × Unit) ⊕ (List (Int × Int × Unit) × Int × Unit) ⊕ Unit) := partEqG_s0 ((0, (0, ())) : (Int × Int × Unit)) gcompare
def partEqE_d [Lk] : (List (Int × Int × Unit) × Int × Int × Int × Unit) → Option ((List (Int × Int × Unit) × Int × Unit)) := partEqG_d ((0, (0, ())) : (Int × Int × Unit)) gcompare
def partEqE [Lk] (v : (List (Int × Int × Unit) × Int × Int × Int × Unit)) : Option ((List (Int × Int × Unit) × Int × Unit)) := partEqG ((0, (0, ())) : (Int × Int × Unit)) gcompare v
theorem partEqE_eq v : partEqE v = partEqE_d v := lock_eq _
-- slices.partitionCmpFunc[archipelago/api.Edge]
abbrev partE_i : Items := [(.tmp 0, .own 72 (.prod (.int .i64) (.prod (.int .i64) .unit))), (.tmp 1, .di), (.tmp 2, .di), (.tmp 3, .di), (.tmp 4, .clo 43 [])]
abbrev partE_o : Items := [(.obj 0, .own 72 (.prod (.int .i64) (.prod (.int .i64) .unit))), (.tmp 0, .di), (.tmp 1, .dat .bool)]
abbrev partE_r : List RS := [.one, .one]
abbrev partE_i4 : Items := [(.obj 0, .own 72 (.prod (.int .i64) (.prod (.int .i64) .unit))), (.tmp 0, .own' 0), (.tmp 1, .di), (.tmp 4, .clo 43 []), (.tmp 12, .di), (.tmp 13, .di)]
abbrev partE_o4 : Outs := [(.exit 8, [(.obj 0, .own 72 (.prod (.int .i64) (.prod (.int .i64) .unit))), (.tmp 0, .own' 0), (.tmp 1, .di), (.tmp 4, .clo 43 []), (.tmp 12, .di), (.tmp 13, .di)])]
def partE_s4 [Lk] : (List (Int × Int × Unit) × Int × Int × Int × Unit) → Option ((List (Int × Int × Unit) × Int × Int × Int × Unit) ⊕ (List (Int × Int × Unit) × Int × Int × Int × Unit) ⊕ Unit) := partG_s4 ((0, (0, ())) : (Int × Int × Unit)) gcompare
abbrev partE_i3 : Items := [(.obj 0, .own 72 (.prod (.int .i64) (.prod (.int .i64) .unit))), (.tmp 0, .own' 0), (.tmp 1, .di), (.tmp 4, .clo 43 []), (.tmp 12, .di), (.tmp 13, .di)]
abbrev partE_o3 : Outs := [(.exit 6, [(.obj 0, .own 72 (.prod (.int .i64) (.prod (.int .i64) .unit))), (.tmp 0, .own' 0), (.tmp 1, .di), (.tmp 4, .clo 43 []), (.tmp 12, .di), (.tmp 13, .di)])]
def partE_s3 [Lk] : (List (Int × Int × Unit) × Int × Int × Int × Unit) → Option ((List (Int × Int × Unit) × Int × Int × Int × Unit) ⊕ (List (Int × Int × Unit) × Int × Int × Int × Unit) ⊕ Unit) := partG_s3 ((0, (0, ())) : (Int × Int × Unit)) gcompare
abbrev partE_i2 : Items := [(.obj 0, .own 72 (.prod (.int .i64) (.prod (.int .i64) .unit))), (.tmp 0, .own' 0), (.tmp 1, .di), (.tmp 4, .clo 43 []), (.tmp 12, .di), (.tmp 13, .di)]
abbrev partE_o2 : Outs := [(.exit 4, [(.obj 0, .own 72 (.prod (.int .i64) (.prod (.int .i64) .unit))), (.tmp 0, .own' 0), (.tmp 1, .di), (.tmp 13, .di)])]
def partE_s2 [Lk] : (List (Int × Int × Unit) × Int × Int × Int × Unit) → Option ((List (Int × Int × Unit) × Int × Int × Int × Unit) ⊕ (List (Int × Int × Unit) × Int × Int × Unit) ⊕ Unit) := partG_s2 ((0, (0, ())) : (Int × Int × Unit)) gcompare
abbrev partE_i1 : Items := [(.obj 0, .own 72 (.prod (.int .i64) (.prod (.int .i64) .unit))), (.tmp 0, .own' 0), (.tmp 1, .di), (.tmp 4, .clo 43 []), (.tmp 12, .di), (.tmp 13, .di)]
abbrev partE_o1 : Outs := [(.exit 2, [(.obj 0, .own 72 (.prod (.int .i64) (.prod (.int .i64) .unit))), (.tmp 0, .own' 0), (.tmp 1, .di), (.tmp 4, .clo 43 []), (.tmp 12, .di), (.tmp 13, .di)])]
def partE_s1 [Lk] : (List (Int × Int × Unit) × Int × Int × Int × Unit) → Option ((List (Int × Int × Unit) × Int × Int × Int × Unit) ⊕ (List (Int × Int × Unit) × Int × Int × Int × Unit) ⊕ Unit) := partG_s1 ((0, (0, ())) : (Int × Int × Unit)) gcompare
abbrev partE_i0 : Items := [(.obj 0, .own 72 (.prod (.int .i64) (.prod (.int .i64) .unit))), (.tmp 0, .own' 0), (.tmp 1, .di), (.tmp 4, .clo 43 []), (.tmp 12, .di), (.tmp 13, .di)]
abbrev partE_o0 : Outs := [(.exit 0, [(.obj 0, .own 72 (.prod (.int .i64) (.prod (.int .i64) .unit))), (.tmp 0, .own' 0), (.tmp 1, .di), (.tmp 4, .clo 43 []), (.tmp 12, .di), (.tmp 13, .di)])]
def partE_s0 [Lk] : (List (Int × Int × Unit) × Int × Int × Int × Unit) → Option ((List (Int × Int × Unit) × Int × Int × Int × Unit) ⊕ (List (Int × Int × Unit) × Int × Int × Int × Unit) ⊕ Unit) := partG_s0 ((0, (0, ())) : (Int × Int × Unit)) gcompare
def partE_d [Lk] : (List (Int × Int × Unit) × Int × Int × Int × Unit) → Option ((List (Int × Int × Unit) × Int × Bool × Unit)) := partG_d ((0, (0, ())) : (Int × Int × Unit)) gcompare
def partE [Lk] (v : (List (Int × Int × Unit) × Int × Int × Int × Unit)) : Option ((List (Int × Int × Unit) × Int × Bool × Unit)) := partG ((0, (0, ())) : (Int × Int × Unit)) gcompare v
theorem partE_eq v : partE v = partE_d v := lock_eq _
-- slices.pdqsortCmpFunc[archipelago/api.Edge]
abbrev pdqE_i : Items := [(.tmp 0, .own 72 (.prod (.int .i64) (.prod (.int .i64) .unit))), (.tmp 1, .di), (.tmp 2, .di), (.tmp 3, .di), (.tmp 4, .clo 43 [])]
abbrev pdqE_o : Items := [(.obj 0, .own 72 (.prod (.int .i64) (.prod (.int .i64) .unit)))]
abbrev pdqE_r : List RS := []
abbrev pdqE_i0 : Items := [(.obj 0, .own 72 (.prod (.int .i64) (.prod (.int .i64) .unit))), (.tmp 0, .own' 0), (.tmp 1, .di), (.tmp 2, .di), (.tmp 3, .di), (.tmp 4, .clo 43 []), (.tmp 10, .dat .bool), (.tmp 11, .dat .bool)]
abbrev pdqE_o0 : Outs := [(.ret, [(.obj 0, .own 72 (.prod (.int .i64) (.prod (.int .i64) .unit)))])]
def pdqE_s0 [Lk] (self : (List (Int × Int × Unit) × Int × Int × Int × Unit) → Option ((List (Int × Int × Unit) × Unit))) : (List (Int × Int × Unit) × Int × Int × Int × Bool × Bool × Unit) → Option ((List (Int × Int × Unit) × Int × Int × Int × Bool × Bool × Unit) ⊕ (List (Int × Int × Unit) × Unit) ⊕ Unit) := pdqG_s0 ((0, (0, ())) : (Int × Int × Unit)) gcompare self
def pdqE_d [Lk] (self : (List (Int × Int × Unit) × Int × Int × Int × Unit) → Option ((List (Int × Int × Unit) × Unit))) : (List (Int × Int × Unit) × Int × Int × Int × Unit) → Option ((List (Int × Int × Unit) × Unit)) := pdqG_d ((0, (0, ())) : (Int × Int × Unit)) gcompare self
def pdqE_f [Lk] : Nat → (List (Int × Int × Unit) × Int × Int × Int × Unit) → Option ((List (Int × Int × Unit) × Unit)) := pdqG_f ((0, (0, ())) : (Int × Int × Unit)) gcompare
def pdqE [Lk] (v : (List (Int × Int × Unit) × Int × Int × Int × Unit)) : Option ((List (Int × Int × Unit) × Unit)) := pdqG ((0, (0, ())) : (Int × Int × Unit)) gcompare v
theorem pdqE_eq v : pdqE v = pdqE_f 100 v := lock_eq _
-- slices.SortFunc[[]archipelago/api.Edge,archipelago/api.Edge]
abbrev sortE_i : Items := [(.tmp 0, .own 72 (.prod (.int .i64) (.prod (.int .i64) .unit))), (.tmp 1, .clo 43 [])]
abbrev sortE_o : Items := [(.obj 0, .own 72 (.prod (.int .i64) (.prod (.int .i64) .unit)))]
abbrev sortE_r : List RS := []
def sortE_d [Lk] : (List (Int × Int × Unit) × Unit) → Option ((List (Int × Int × Unit) × Unit)) := sortG_d ((0, (0, ())) : (Int × Int × Unit)) gcompare
def sortE [Lk] (v : (List (Int × Int × Unit) × Unit)) : Option ((List (Int × Int × Unit) × Unit)) := sortG ((0, (0, ())) : (Int × Int × Unit)) gcompare v
theorem sortE_eq v : sortE v = sortE_d v := lock_eq _
-- archipelago/grow.Add$1
abbrev gadd1_i : Items := [(.tmp 0, .dat (.prod (.int .i64) (.prod (.int .i64) (.prod (.int .i64) (.prod .bool .unit))))), (.tmp 1, .dat (.prod (.int .i64) (.prod (.int .i64) (.prod (.int .i64) (.prod .bool .unit)))))]
abbrev gadd1_o : Items := [(.tmp 0, .di)]
abbrev gadd1_r : List RS := [.one]
def gadd1_d [Lk] : ((Int × Int × Int × Bool × Unit) × (Int × Int × Int × Bool × Unit) × Unit) → Option ((Int × Unit)) := fun (a0, a1, _) =>
 match gcompare ((a0.1, (a0.2.1, ())), (a1.1, (a1.2.1, ())), ()) with
 | none => none
 | some (y0, _) => some (y0, ())
def gadd1 [Lk] := fun v => Lk.f (gadd1_d v)
theorem gadd1_eq v : gadd1 v = gadd1_d v := lock_eq _
-- slices.insertionSortCmpFunc[archipelago/api.Tie]
abbrev insT_i : Items := [(.tmp 0, .own 42 (.prod (.int .i64) (.prod (.int .i64) (.prod (.int .i64) (.prod .bool .unit))))), (.tmp 1, .di), (.tmp 2, .di), (.tmp 3, .clo 42 [])]
abbrev insT_o : Items := [(.obj 0, .own 42 (.prod (.int .i64) (.prod (.int .i64) (.prod (.int .i64) (.prod .bool .unit)))))]
abbrev insT_r : List RS := []
abbrev insT_i1 : Items := [(.obj 0, .own 42 (.prod (.int .i64) (.prod (.int .i64) (.prod (.int .i64) (.prod .bool .unit))))), (.tmp 0, .own' 0), (.tmp 1, .di), (.tmp 2, .di), (.tmp 3, .clo 42 []), (.tmp 8, .di), (.tmp 9, .di)]
abbrev insT_o1 : Outs := [(.exit 2, [(.obj 0, .own 42 (.prod (.int .i64) (.prod (.int .i64) (.prod (.int .i64) (.prod .bool .unit))))), (.tmp 0, .own' 0), (.tmp 1, .di), (.tmp 2, .di), (.tmp 3, .clo 42 []), (.tmp 8, .di)])]
def insT_s1 [Lk] : (List (Int × Int × Int × Bool × Unit) × Int × Int × Int × Int × Unit) → Option ((List (Int × Int × Int × Bool × Unit) × Int × Int × Int × Int × Unit) ⊕ (List (Int × Int × Int × Bool × Unit) × Int × Int × Int × Unit) ⊕ Unit) := insG_s1 ((0, (0, (0, (false, ())))) : (Int × Int × Int × Bool × Unit)) gadd1
abbrev insT_i0 : Items := [(.obj 0, .own 42 (.prod (.int .i64) (.prod (.int .i64) (.prod (.int .i64) (.prod .bool .unit))))), (.tmp 0, .own' 0), (.tmp 1, .di), (.tmp 2, .di), (.tmp 3, .clo 42 []), (.tmp 8, .di)]
abbrev insT_o0 : Outs := [(.exit 0, [(.obj 0, .own 42 (.prod (.int .i64) (.prod (.int .i64) (.prod (.int .i64) (.prod .bool .unit)))))])]
def insT_s0 [Lk] : (List (Int × Int × Int × Bool × Unit) × Int × Int × Int × Unit) → Option ((List (Int × Int × Int × Bool × Unit) × Int × Int × Int × Unit) ⊕ (List (Int × Int × Int × Bool × Unit) × Unit) ⊕ Unit) := insG_s0 ((0, (0, (0, (false, ())))) : (Int × Int × Int × Bool × Unit)) gadd1
def insT_d [Lk] : (List (Int × Int × Int × Bool × Unit) × Int × Int × Unit) → Option ((List (Int × Int × Int × Bool × Unit) × Unit)) := insG_d ((0, (0, (0, (false, ())))) : (Int × Int × Int × Bool × Unit)) gadd1
def insT [Lk] (v : (List (Int × Int × Int × Bool × Unit) × Int × Int × Unit)) : Option ((List (Int × Int × Int × Bool × Unit) × Unit)) := insG ((0, (0, (0, (false, ())))) : (Int × Int × Int × Bool × Unit)) gadd1 v
theorem insT_eq v : insT v = insT_d v := lock_eq _
-- slices.siftDownCmpFunc[archipelago/api.Tie]
abbrev siftT_i : Items := [(.tmp 0, .own 42 (.prod (.int .i64) (.prod (.int .i64) (.prod (.int .i64) (.prod .bool .unit))))), (.tmp 1, .di), (.tmp 2, .di), (.tmp 3, .di), (.tmp 4, .clo 42 [])]
abbrev siftT_o : Items := [(.obj 0, .own 42 (.prod (.int .i64) (.prod (.int .i64) (.prod (.int .i64) (.prod .bool .unit)))))]
abbrev siftT_r : List RS := []
abbrev siftT_i0 : Items := [(.obj 0, .own 42 (.prod (.int .i64) (.prod (.int .i64) (.prod (.int .i64) (.prod .bool .unit))))), (.tmp 0, .own' 0), (.tmp 2, .di), (.tmp 3, .di), (.tmp 4, .clo 42 []), (.tmp 10, .di)]
abbrev siftT_o0 : Outs := [(.exit 0, [(.obj 0, .own 42 (.prod (.int .i64) (.prod (.int .i64) (.prod (.int .i64) (.prod .bool .unit)))))]), (.ret, [(.obj 0, .own 42 (.prod (.int .i64) (.prod (.int .i64) (.prod (.int .i64) (.prod .bool .unit)))))])]
def siftT_s0 [Lk] : (List (Int × Int × Int × Bool × Unit) × Int × Int × Int × Unit) → Option ((List (Int × Int × Int × Bool × Unit) × Int × Int × Int × Unit) ⊕ (List (Int × Int × Int × Bool × Unit) × Unit) ⊕ (List (Int × Int × Int × Bool × Unit) × Unit) ⊕ Unit) := siftG_s0 ((0, (0, (0, (false, ())))) : (Int × Int × Int × Bool × Unit)) gadd1
def siftT_d [Lk] : (List (Int × Int × Int × Bool × Unit) × Int × Int × Int × Unit) → Option ((List (Int × Int × Int × Bool × Unit) × Unit)) := siftG_d ((0, (0, (0, (false, ())))) : (Int × Int × Int × Bool × Unit)) gadd1
def siftT [Lk] (v : (List (Int × Int × Int × Bool × Unit) × Int × Int × Int × Unit)) : Option ((List (Int × Int × Int × Bool × Unit) × Unit)) := siftG ((0, (0, (0, (false, ())))) : (Int × Int × Int × Bool × Unit)) gadd1 v
theorem siftT_eq v : siftT v = siftT_d v := lock_eq _
-- slices.heapSortCmpFunc[archipelago/api.Tie]
abbrev heapT_i : Items := [(.tmp 0, .own 42 (.prod (.int .i64) (.prod (.int .i64) (.prod (.int .i64) (.prod .bool .unit))))), (.tmp 1, .di), (.tmp 2, .di), (.tmp 3, .clo 42 [])]
abbrev heapT_o : Items := [(.obj 0, .own 42 (.prod (.int .i64) (.prod (.int .i64) (.prod (.int .i64) (.prod .bool .unit)))))]
abbrev heapT_r : List RS := []
abbrev heapT_i1 : Items := [(.obj 0, .own 42 (.prod (.int .i64) (.prod (.int .i64) (.prod (.int .i64) (.prod .bool .unit))))), (.tmp 0, .own' 0), (.tmp 3, .clo 42 []), (.tmp 8, .di), (.tmp 9, .di), (.tmp 12, .di)]
abbrev heapT_o1 : Outs := [(.exit 2, [(.obj 0, .own 42 (.prod (.int .i64) (.prod (.int .i64) (.prod (.int .i64) (.prod .bool .unit)))))])]
def heapT_s1 [Lk] : (List (Int × Int × Int × Bool × Unit) × Int × Int × Int × Unit) → Option ((List (Int × Int × Int × Bool × Unit) × Int × Int × Int × Unit) ⊕ (List (Int × Int × Int × Bool × Unit) × Unit) ⊕ Unit) := heapG_s1 ((0, (0, (0, (false, ())))) : (Int × Int × Int × Bool × Unit)) gadd1
abbrev heapT_i0 : Items := [(.obj 0, .own 42 (.prod (.int .i64) (.prod (.int .i64) (.prod (.int .i64) (.prod .bool .unit))))), (.tmp 0, .own' 0), (.tmp 3, .clo 42 []), (.tmp 8, .di), (.tmp 9, .di), (.tmp 10, .di), (.tmp 11, .di)]
abbrev heapT_o0 : Outs := [(.exit 0, [(.obj 0, .own 42 (.prod (.int .i64) (.prod (.int .i64) (.prod (.int .i64) (.prod .bool .unit))))), (.tmp 0, .own' 0), (.tmp 3, .clo 42 []), (.tmp 8, .di), (.tmp 9, .di), (.tmp 10, .di)])]
def heapT_s0 [Lk] : (List (Int × Int × Int × Bool × Unit) × Int × Int × Int × Int × Unit) → Option ((List (Int × Int × Int × Bool × Unit) × Int × Int × Int × Int × Unit) ⊕ (List (Int × Int × Int × Bool × Unit) × Int × Int × Int × Unit) ⊕ Unit) := heapG_s0 ((0, (0, (0, (false, ())))) : (Int × Int × Int × Bool × Unit)) gadd1
def heapT_d [Lk] : (List (Int × Int × Int × Bool × Unit) × Int × Int × Unit) → Option ((List (Int × Int × Int × Bool × Unit) × Unit)) := heapG_d ((0, (0, (0, (false, ())))) : (Int × Int × Int × Bool × Unit)) gadd1
def heapT [Lk] (v : (List (Int × Int × Int × Bool × Unit) × Int × Int × Unit)) : Option ((List (Int × Int × Int × Bool × Unit) × Unit)) := heapG ((0, (0, (0, (false, ())))) : (Int × Int × Int × Bool × Unit)) gadd1 v
theorem heapT_eq v : heapT v = heapT_d v := lock_eq _
-- slices.breakPatternsCmpFunc[archipelago/api.Tie]
abbrev breakT_i : Items := [(.tmp 0, .own 42 (.prod (.int .i64) (.prod (.int .i64) (.prod (.int .i64) (.prod .bool .unit))))), (.tmp 1, .di), (.tmp 2, .di), (.tmp 3, .clo 42 [])]
abbrev breakT_o : Items := [(.obj 0, .own 42 (.prod (.int .i64) (.prod (.int .i64) (.prod (.int .i64) (.prod .bool .unit)))))]
abbrev breakT_r : List RS := []
abbrev breakT_i0 : Items := [(.obj 0, .own 42 (.prod (.int .i64) (.prod (.int .i64) (.prod (.int .i64) (.prod .bool .unit))))), (.tmp 0, .own' 0), (.tmp 1, .di), (.tmp 8, .di), (.tmp 9, .box 1), (.cell 1 0, .dat (.int .u64)), (.tmp 10, .dat (.int .u64)), (.tmp 11, .di)]
abbrev breakT_o0 : Outs := [(.exit 0, [(.obj 0, .own 42 (.prod (.int .i64) (.prod (.int .i64) (.prod (.int .i64) (.prod .bool .unit)))))])]
def breakT_s0 [Lk] : (List (Int × Int × Int × Bool × Unit) × Int × Int × Int × Int × Int × Unit) → Option ((List (Int × Int × Int × Bool × Unit) × Int × Int × Int × Int × Int × Unit) ⊕ (List (Int × Int × Int × Bool × Unit) × Unit) ⊕ Unit) := breakG_s0 ((0, (0, (0, (false, ())))) : (Int × Int × Int × Bool × Unit)) gadd1
def breakT_d [Lk] : (List (Int × Int × Int × Bool × Unit) × Int × Int × Unit) → Option ((List (Int × Int × Int × Bool × Unit) × Unit)) := breakG_d ((0, (0, (0, (false, ())))) : (Int × Int × Int × Bool × Unit)) gadd1
def breakT [Lk] (v : (List (Int × Int × Int × Bool × Unit) × Int × Int × Unit)) : Option ((List (Int × Int × Int × Bool × Unit) × Unit)) := breakG ((0, (0, (0, (false, ())))) : (Int × Int × Int × Bool × Unit)) gadd1 v
theorem breakT_eq v : breakT v = breakT_d v := lock_eq _
-- slices.order2CmpFunc[archipelago/api.Tie]
abbrev order2T_i : Items := [(.tmp 0, .own 42 (.prod (.int .i64) (.prod (.int .i64) (.prod (.int .i64) (.prod .bool .unit))))), (.tmp 1, .di), (.tmp 2, .di), (.tmp 3, .box 1), (.cell 1 0, .di), (.tmp 4, .clo 42 [])]
abbrev order2T_o : Items := [(.obj 0, .own 42 (.prod (.int .i64) (.prod (.int .i64) (.prod (.int .i64) (.prod .bool .unit))))), (.obj 1, .box 1), (.cell 1 0, .di), (.tmp 0, .di), (.tmp 1, .di)]
abbrev order2T_r : List RS := [.one, .one]
def order2T_d [Lk] : (List (Int × Int × Int × Bool × Unit) × Int × Int × Int × Unit) → Option ((List (Int × Int × Int × Bool × Unit) × Int × Int × Int × Unit)) := order2G_d ((0, (0, (0, (false, ())))) : (Int × Int × Int × Bool × Unit)) gadd1
def order2T [Lk] (v : (List (Int × Int × Int × Bool × Unit) × Int × Int × Int × Unit)) : Option ((List (Int × Int × Int × Bool × Unit) × Int × Int × Int × Unit)) := order2G ((0, (0, (0, (false, ())))) : (Int × Int × Int × Bool × Unit)) gadd1 v
theorem order2T_eq v : order2T v = order2T_d v := lock_eq _
-- slices.medianCmpFunc[archipelago/api.Tie]
abbrev medianT_i : Items := [(.tmp 0, .own 42 (.prod (.int .i64) (.prod (.int .i64) (.prod (.int .i64) (.prod .bool .unit))))), (.tmp 1, .di), (.tmp 2, .di), (.tmp 3, .di), (.tmp 4, .box 1), (.cell 1 0, .di), (.tmp 5, .clo 42 [])]
abbrev medianT_o : Items := [(.obj 0, .own 42 (.prod (.int .i64) (.prod (.int .i64) (.prod (.int .i64) (.prod .bool .unit))))), (.obj 1, .box 1), (.cell 1 0, .di), (.tmp 0, .di)]
abbrev medianT_r : List RS := [.one]
def medianT_d [Lk] : (List (Int × Int × Int × Bool × Unit) × Int × Int × Int × Int × Unit) → Option ((List (Int × Int × Int × Bool × Unit) × Int × Int × Unit)) := medianG_d ((0, (0, (0, (false, ())))) : (Int × Int × Int × Bool × Unit)) gadd1
def medianT [Lk] (v : (List (Int × Int × Int × Bool × Unit) × Int × Int × Int × Int × Unit)) : Option ((List (Int × Int × Int × Bool × Unit) × Int × Int × Unit)) := medianG ((0, (0, (0, (false, ())))) : (Int × Int × Int × Bool × Unit)) gadd1 v
theorem medianT_eq v : medianT v = medianT_d v := lock_eq _
-- slices.medianAdjacentCmpFunc[archipelago/api.Tie]
abbrev medAdjT_i : Items := [(.tmp 0, .own 42 (.prod (.int .i64) (.prod (.int .i64) (.prod (.int .i64) (.prod .bool .unit))))), (.tmp 1, .di), (.tmp 2, .box 1), (.cell 1 0, .di), (.tmp 3, .clo 42 [])]
abbrev medAdjT_o : Items := [(.obj 0, .own 42 (.prod (.int .i64) (.prod (.int .i64) (.prod (.int .i64) (.prod .bool .unit))))), (.obj 1, .box 1), (.cell 1 0, .di), (.tmp 0, .di)]
abbrev medAdjT_r : List RS := [.one]
def medAdjT_d [Lk] : (List (Int × Int × Int × Bool × Unit) × Int × Int × Unit) → Option ((List (Int × Int × Int × Bool × Unit) × Int × Int × Unit)) := medAdjG_d ((0, (0, (0, (false, ())))) : (Int × Int × Int × Bool × Unit)) gadd1
def medAdjT [Lk] (v : (List (Int × Int × Int × Bool × Unit) × Int × Int × Unit)) : Option ((List (Int × Int × Int × Bool × Unit) × Int × Int × Unit)) := medAdjG ((0, (0, (0, (false, ())))) : (Int × Int × Int × Bool × Unit)) gadd1 v
theorem medAdjT_eq v : medAdjT v = medAdjT_d v := lock_eq _
-- slices.choosePivotCmpFunc[archipelago/api.Tie]
abbrev pivotT_i : Items := [(.tmp 0, .own 42 (.prod (.int .i64) (.prod (.int .i64) (.prod (.int .i64) (.prod .bool .unit))))), (.tmp 1, .di), (.tmp 2, .di), (.tmp 3, .clo 42 [])]
abbrev pivotT_o : Items := [(.obj 0, .own 42 (.prod (.int .i64) (.prod (.int .i64) (.prod (.int .i64) (.prod .bool .unit))))), (.tmp 0, .di), (.tmp 1, .di)]
abbrev pivotT_r : List RS := [.one, .one]
def pivotT_d [Lk] : (List (Int × Int × Int × Bool × Unit) × Int × Int × Unit) → Option ((List (Int × Int × Int × Bool × Unit) × Int × Int × Unit)) := pivotG_d ((0, (0, (0, (false, ())))) : (Int × Int × Int × Bool × Unit)) gadd1
def pivotT [Lk] (v : (List (Int × Int × Int × Bool × Unit) × Int × Int × Unit)) : Option ((List (Int × Int × Int × Bool × Unit) × Int × Int × Unit)) := pivotG ((0, (0, (0, (false, ())))) : (Int × Int × Int × Bool × Unit)) gadd1 v
theorem pivotT_eq v : pivotT v = pivotT_d v := lock_eq _
-- slices.reverseRangeCmpFunc[archipelago/api.Tie]
abbrev revT_i : Items := [(.tmp 0, .own 42 (.prod (.int .i64) (.prod (.int .i64) (.prod (.int .i64) (.prod .bool .unit))))), (.tmp 1, .di), (.tmp 2, .di), (.tmp 3, .clo 42 [])]
abbrev revT_o : Items := [(.obj 0, .own 42 (.prod (.int .i64) (.prod (.int .i64) (.prod (.int .i64) (.prod .bool .unit)))))]
abbrev revT_r : List RS := []
abbrev revT_i0 : Items := [(.obj 0, .own 42 (.prod (.int .i64) (.prod (.int .i64) (.prod (.int .i64) (.prod .bool .unit))))), (.tmp 0, .own' 0), (.tmp 8, .di), (.tmp 9, .di)]
abbrev revT_o0 : Outs := [(.exit 0, [(.obj 0, .own 42 (.prod (.int .i64) (.prod (.int .i64) (.prod (.int .i64) (.prod .bool .unit)))))])]
def revT_s0 [Lk] : (List (Int × Int × Int × Bool × Unit) × Int × Int × Unit) → Option ((List (Int × Int × Int × Bool × Unit) × Int × Int × Unit) ⊕ (List (Int × Int × Int × Bool × Unit) × Unit) ⊕ Unit) := revG_s0 ((0, (0, (0, (false, ())))) : (Int × Int × Int × Bool × Unit)) gadd1
def revT_d [Lk] : (List (Int × Int × Int × Bool × Unit) × Int × Int × Unit) → Option ((List (Int × Int × Int × Bool × Unit) × Unit)) := revG_d ((0, (0, (0, (false, ())))) : (Int × Int × Int × Bool × Unit)) gadd1
def revT [Lk] (v : (List (Int × Int × Int × Bool × Unit) × Int × Int × Unit)) : Option ((List (Int × Int × Int × Bool × Unit) × Unit)) := revG ((0, (0, (0, (false, ())))) : (Int × Int × Int × Bool × Unit)) gadd1 v
theorem revT_eq v : revT v = revT_d v := lock_eq _
-- slices.partialInsertionSortCmpFunc[archipelago/api.Tie]
abbrev partInsT_i : Items := [(.tmp 0, .own 42 (.prod (.int .i64) (.prod (.int .i64) (.prod (.int .i64) (.prod .bool .unit))))), (.tmp 1, .di), (.tmp 2, .di), (.tmp 3, .clo 42 [])]
abbrev partInsT_o : Items := [(.obj 0, .own 42 (.prod (.int .i64) (.prod (.int .i64) (.prod (.int .i64) (.prod .bool .unit))))), (.tmp 0, .dat .bool)]
abbrev partInsT_r : List RS := [.one]
abbrev partInsT_i3 : Items := [(.obj 0, .own 42 (.prod (.int .i64) (.prod (.int .i64) (.prod (.int .i64) (.prod .bool .unit))))), (.tmp 0, .own' 0), (.tmp 1, .di), (.tmp 2, .di), (.tmp 3, .clo 42 []), (.tmp 9, .di), (.tmp 10, .di), (.tmp 12, .di)]
abbrev partInsT_o3 : Outs := [(.exit 6, [(.obj 0, .own 42 (.prod (.int .i64) (.prod (.int .i64) (.prod (.int .i64) (.prod .bool .unit))))), (.tmp 0, .own' 0), (.tmp 1, .di), (.tmp 2, .di), (.tmp 3, .clo 42 []), (.tmp 9, .di), (.tmp 10, .di)])]
def partInsT_s3 [Lk] : (List (Int × Int × Int × Bool × Unit) × Int × Int × Int × Int × Int × Unit) → Option ((List (Int × Int × Int × Bool × Unit) × Int × Int × Int × Int × Int × Unit) ⊕ (List (Int × Int × Int × Bool × Unit) × Int × Int × Int × Int × Unit) ⊕ Unit) := partInsG_s3 ((0, (0, (0, (false, ())))) : (Int × Int × Int × Bool × Unit)) gadd1
abbrev partInsT_i2 : Items := [(.obj 0, .own 42 (.prod (.int .i64) (.prod (.int .i64) (.prod (.int .i64) (.prod .bool .unit))))), (.tmp 0, .own' 0), (.tmp 1, .di), (.tmp 2, .di), (.tmp 3, .clo 42 []), (.tmp 9, .di), (.tmp 10, .di), (.tmp 11, .di)]
abbrev partInsT_o2 : Outs := [(.exit 4, [(.obj 0, .own 42 (.prod (.int .i64) (.prod (.int .i64) (.prod (.int .i64) (.prod .bool .unit))))), (.tmp 0, .own' 0), (.tmp 1, .di), (.tmp 2, .di), (.tmp 3, .clo 42 []), (.tmp 9, .di), (.tmp 10, .di)])]
def partInsT_s2 [Lk] : (List (Int × Int × Int × Bool × Unit) × Int × Int × Int × Int × Int × Unit) → Option ((List (Int × Int × Int × Bool × Unit) × Int × Int × Int × Int × Int × Unit) ⊕ (List (Int × Int × Int × Bool × Unit) × Int × Int × Int × Int × Unit) ⊕ Unit) := partInsG_s2 ((0, (0, (0, (false, ())))) : (Int × Int × Int × Bool × Unit)) gadd1
abbrev partInsT_i1 : Items := [(.obj 0, .own 42 (.prod (.int .i64) (.prod (.int .i64) (.prod (.int .i64) (.prod .bool .unit))))), (.tmp 0, .own' 0), (.tmp 1, .di), (.tmp 2, .di), (.tmp 3, .clo 42 []), (.tmp 9, .di), (.tmp 10, .di)]
abbrev partInsT_o1 : Outs := [(.exit 2, [(.obj 0, .own 42 (.prod (.int .i64) (.prod (.int .i64) (.prod (.int .i64) (.prod .bool .unit))))), (.tmp 0, .own' 0), (.tmp 1, .di), (.tmp 2, .di), (.tmp 3, .clo 42 []), (.tmp 9, .di), (.tmp 10, .di)])]
def partInsT_s1 [Lk] : (List (Int × Int × Int × Bool × Unit) × Int × Int × Int × Int × Unit) → Option ((List (Int × Int × Int × Bool × Unit) × Int × Int × Int × Int × Unit) ⊕ (List (Int × Int × Int × Bool × Unit) × Int × Int × Int × Int × Unit) ⊕ Unit) := partInsG_s1 ((0, (0, (0, (false, ())))) : (Int × Int × Int × Bool × Unit)) gadd1
abbrev partInsT_i0 : Items := [(.obj 0, .own 42 (.prod (.int .i64) (.prod (.int .i64) (.prod (.int .i64) (.prod .bool .unit))))), (.tmp 0, .own' 0), (.tmp 1, .di), (.tmp 2, .di), (.tmp 3, .clo 42 []), (.tmp 9, .di), (.tmp 10, .di)]
abbrev partInsT_o0 : Outs := [(.ret, [(.obj 0, .own 42 (.prod (.int .i64) (.prod (.int .i64) (.prod (.int .i64) (.prod .bool .unit))))), (.tmp 8, .dat .bool)]), (.exit 0, [(.obj 0, .own 42 (.prod (.int .i64) (.prod (.int .i64) (.prod (.int .i64) (.prod .bool .unit)))))])]
def partInsT_s0 [Lk] : (List (Int × Int × Int × Bool × Unit) × Int × Int × Int × Int × Unit) → Option ((List (Int × Int × Int × Bool × Unit) × Int × Int × Int × Int × Unit) ⊕ (List (Int × Int × Int × Bool × Unit) × Bool × Unit) ⊕ (List (Int × Int × Int × Bool × Unit) × Unit) ⊕ Unit) := partInsG_s0 ((0, (0, (0, (false, ())))) : (Int × Int × Int × Bool × Unit)) gadd1
def partInsT_d [Lk] : (List (Int × Int × Int × Bool × Unit) × Int × Int × Unit) → Option ((List (Int × Int × Int × Bool × Unit) × Bool × Unit)) := partInsG_d ((0, (0, (0, (false, ())))) : (Int × Int × Int × Bool × Unit)) gadd1
def partInsT [Lk] (v : (List (Int × Int × Int × Bool × Unit) × Int × Int × Unit)) : Option ((List (Int × Int × Int × Bool × Unit) × Bool × Unit)) := partInsG ((0, (0, (0, (false, ())))) : (Int × Int × Int × Bool × Unit)) gadd1 v
theorem partInsT_eq v : partInsT v = partInsT_d v := lock_eq _
-- slices.partitionEqualCmpFunc[archipelago/api.Tie]
abbrev partEqT_i : Items := [(.tmp 0, .own 42 (.prod (.int .i64) (.prod (.int .i64) (.prod (.int .i64) (.prod .bool .unit))))), (.tmp 1, .di), (.tmp 2, .di), (.tmp 3, .di), (.tmp 4, .clo 42 [])]
abbrev partEqT_o : Items := [(.obj 0, .own 42 (.prod (.int .i64) (.prod (.int .i64) (.prod (.int .i64) (.prod .bool .unit))))), (.tmp 0, .di)]
abbrev partEqT_r : List RS := [.one]
abbrev partEqT_i2 : Items := [(.obj 0, .own 42 (.prod (.int .i64) (.prod (.int .i64) (.prod (.int .i64) (.prod .bool .unit))))), (.tmp 0, .own' 0), (.tmp 1, .di), (.tmp 4, .clo 42 []), (.tmp 11, .di), (.tmp 12, .di)]
abbrev partEqT_o2 : Outs := [(.exit 4, [(.obj 0, .own 42 (.prod (.int .i64) (.prod (.int .i64) (.prod (.int .i64) (.prod .bool .unit))))), (.tmp 0, .own' 0), (.tmp 1, .di), (.tmp 4, .clo 42 []), (.tmp 11, .di), (.tmp 12, .di)])]
def partEqT_s2 [Lk] : (List (Int × Int × Int × Bool × Unit) × Int × Int × Int × Unit) → Option ((List (Int × Int × Int × Bool × Unit) × Int × Int × Int × Unit) ⊕ (List (Int × Int × Int × Bool × Unit) × Int × Int × Int × Unit) ⊕ Unit) := partEqG_s2 ((0, (0, (0, (false, ())))) : (Int × Int × Int × Bool × Unit)) gadd1
abbrev partEqT_i1 : Items := [(.obj 0, .own 42 (.prod (.int .i64) (.prod (.int .i64) (.prod (.int .i64) (.prod .bool .unit))))), (.tmp 0, .own' 0), (.tmp 1, .di), (.tmp 4, .clo 42 []), (.tmp 11, .di), (.tmp 12, .di)]
abbrev partEqT_o1 : Outs := [(.exit 2, [(.obj 0, .own 42 (.prod (.int .i64) (.prod (.int .i64) (.prod (.int .i64) (.prod .bool .unit))))), (.tmp 0, .own' 0), (.tmp 1, .di), (.tmp 4, .clo 42 []), (.tmp 11, .di), (.tmp 12, .di)])]
def partEqT_s1 [Lk] : (List (Int × Int × Int × Bool × Unit) × Int × Int × Int × Unit) → Option ((List (Int × Int × Int × Bool × Unit) × Int × Int × Int × Unit) ⊕ (List (Int × Int × Int × Bool × Unit) × Int × Int × Int × Unit) ⊕ Unit) := partEqG_s1 ((0, (0, (0, (false, ())))) : (Int × Int × Int × Bool × Unit)) gadd1
abbrev partEqT_i0 : Items := [(.obj 0, .own 42 (.prod (.int .i64) (.prod (.int .i64) (.prod (.int .i64) (.prod .bool .unit))))), (.tmp 0, .own' 0), (.tmp 1, .di), (.tmp 4, .clo 42 []), (.tmp 11, .di), (.tmp 12, .di)]
abbrev partEqT_o0 : Outs := [(.exit 0, [(.obj 0, .own 42 (.prod (.int .i64) (.prod (.int .i64) (.prod (.int .i64) (.prod .bool .unit))))), (.tmp 11, .di)])]
def partEqT_s0 [Lk] : (List (Int × Int × Int × Bool × Unit) × Int × Int × Int × Unit) → Option ((List (Int × Int × Int × Bool × Unit) × Int × Int × Int × Unit) ⊕ (List (Int × Int × Int × Bool × Unit) × Int × Unit) ⊕ Unit) := partEqG_s0 ((0, (0, (0, (false, ())))) : (Int × Int × Int × Bool × Unit)) gadd1
def partEqT_d [Lk] : (List (Int × Int × Int × Bool × Unit) × Int × Int × Int × Unit) → Option ((List (Int × Int × Int × Bool × Unit) × Int × Unit)) := partEqG_d ((0, (0, (0, (false, ())))) : (Int × Int × Int × Bool × Unit)) gadd1
def partEqT [Lk] (v : (List (Int × Int × Int × Bool × Unit) × Int × Int × Int × Unit)) : Option ((List (Int × Int × Int × Bool × Unit) × Int × Unit)) := partEqG ((0, (0, (0, (false, ())))) : (Int × Int × Int × Bool × Unit)) gadd1 v
theorem partEqT_eq v : partEqT v = partEqT_d v := lock_eq _
-- slices.partitionCmpFunc[archipelago/api.Tie]
abbrev partT_i : Items := [(.tmp 0, .own 42 (.prod (.int .i64) (.prod (.int .i64) (.prod (.int .i64) (.prod .bool .unit))))), (.tmp 1, .di), (.tmp 2, .di), (.tmp 3, .di), (.tmp 4, .clo 42 [])]
abbrev partT_o : Items := [(.obj 0, .own 42 (.prod (.int .i64) (.prod (.int .i64) (.prod (.int .i64) (.prod .bool .unit))))), (.tmp 0, .di), (.tmp 1, .dat .bool)]
abbrev partT_r : List RS := [.one, .one]
abbrev partT_i4 : Items := [(.obj 0, .own 42 (.prod (.int .i64) (.prod (.int .i64) (.prod (.int .i64) (.prod .bool .unit))))), (.tmp 0, .own' 0), (.tmp 1, .di), (.tmp 4, .clo 42 []), (.tmp 12, .di), (.tmp 13, .di)]
abbrev partT_o4 : Outs := [(.exit 8, [(.obj 0, .own 42 (.prod (.int .i64) (.prod (.int .i64) (.prod (.int .i64) (.prod .bool .unit))))), (.tmp 0, .own' 0), (.tmp 1, .di), (.tmp 4, .clo 42 []), (.tmp 12, .di), (.tmp 13, .di)])]
def partT_s4 [Lk] : (List (Int × Int × Int × Bool × Unit) × Int × Int × Int × Unit) → Option ((List (Int × Int × Int × Bool × Unit) × Int × Int × Int × Unit) ⊕ (List (Int × Int × Int × Bool × Unit) × Int × Int × Int × Unit) ⊕ Unit) := partG_s4 ((0, (0, (0, (false, ())))) : (Int × Int × Int × Bool × Unit)) gadd1
abbrev partT_i3 : Items := [(.obj 0, .own 42 (.prod (.int .i64) (.prod (.int .i64) (.prod (.int .i64) (.prod .bool .unit))))), (.tmp 0, .own' 0), (.tmp 1, .di), (.tmp 4, .clo 42 []), (.tmp 12, .di), (.tmp 13, .di)]
abbrev partT_o3 : Outs := [(.exit 6, [(.obj 0, .own 42 (.prod (.int .i64) (.prod (.int .i64) (.prod (.int .i64) (.prod .bool .unit))))), (.tmp 0, .own' 0), (.tmp 1, .di), (.tmp 4, .clo 42 []), (.tmp 12, .di), (.tmp 13, .di)])]
def partT_s3 [Lk] : (List (Int × Int × Int × Bool × Unit) × Int × Int × Int × Unit) → Option ((List (Int × Int × Int × Bool × Unit) × Int × Int × Int × Unit) ⊕ (List (Int × Int × Int × Bool × Unit) × Int × Int × Int × Unit) ⊕ Unit) := partG_s3 ((0, (0, (0, (false, ())))) : (Int × Int × Int × Bool × Unit)) gadd1
abbrev partT_i2 : Items := [(.obj 0, .own 42 (.prod (.int .i64) (.prod (.int .i64) (.prod (.int .i64) (.prod .bool .unit))))), (.tmp 0, .own' 0), (.tmp 1, .di), (.tmp 4, .clo 42 []), (.tmp 12, .di), (.tmp 13, .di)]
abbrev partT_o2 : Outs := [(.exit 4, [(.obj 0, .own 42 (.prod (.int .i64) (.prod (.int .i64) (.prod (.int .i64) (.prod .bool .unit))))), (.tmp 0, .own' 0), (.tmp 1, .di), (.tmp 13, .di)])]
def partT_s2 [Lk] : (List (Int × Int × Int × Bool × Unit) × Int × Int × Int × Unit) → Option ((List (Int × Int × Int × Bool × Unit) × Int × Int × Int × Unit) ⊕ (List (Int × Int × Int × Bool × Unit) × Int × Int × Unit) ⊕ Unit) := partG_s2 ((0, (0, (0, (false, ())))) : (Int × Int × Int × Bool × Unit)) gadd1
abbrev partT_i1 : Items := [(.obj 0, .own 42 (.prod (.int .i64) (.prod (.int .i64) (.prod (.int .i64) (.prod .bool .unit))))), (.tmp 0, .own' 0), (.tmp 1, .di), (.tmp 4, .clo 42 []), (.tmp 12, .di), (.tmp 13, .di)]
abbrev partT_o1 : Outs := [(.exit 2, [(.obj 0, .own 42 (.prod (.int .i64) (.prod (.int .i64) (.prod (.int .i64) (.prod .bool .unit))))), (.tmp 0, .own' 0), (.tmp 1, .di), (.tmp 4, .clo 42 []), (.tmp 12, .di), (.tmp 13, .di)])]
def partT_s1 [Lk] : (List (Int × Int × Int × Bool × Unit) × Int × Int × Int × Unit) → Option ((List (Int × Int × Int × Bool × Unit) × Int × Int × Int × Unit) ⊕ (List (Int × Int × Int × Bool × Unit) × Int × Int × Int × Unit) ⊕ Unit) := partG_s1 ((0, (0, (0, (false, ())))) : (Int × Int × Int × Bool × Unit)) gadd1
abbrev partT_i0 : Items := [(.obj 0, .own 42 (.prod (.int .i64) (.prod (.int .i64) (.prod (.int .i64) (.prod .bool .unit))))), (.tmp 0, .own' 0), (.tmp 1, .di), (.tmp 4, .clo 42 []), (.tmp 12, .di), (.tmp 13, .di)]
abbrev partT_o0 : Outs := [(.exit 0, [(.obj 0, .own 42 (.prod (.int .i64) (.prod (.int .i64) (.prod (.int .i64) (.prod .bool .unit))))), (.tmp 0, .own' 0), (.tmp 1, .di), (.tmp 4, .clo 42 []), (.tmp 12, .di), (.tmp 13, .di)])]
def partT_s0 [Lk] : (List (Int × Int × Int × Bool × Unit) × Int × Int × Int × Unit) → Option ((List (Int × Int × Int × Bool × Unit) × Int × Int × Int × Unit) ⊕ (List (Int × Int × Int × Bool × Unit) × Int × Int × Int × Unit) ⊕ Unit) := partG_s0 ((0, (0, (0, (false, ())))) : (Int × Int × Int × Bool × Unit)) gadd1
def partT_d [Lk] : (List (Int × Int × Int × Bool × Unit) × Int × Int × Int × Unit) → Option ((List (Int × Int × Int × Bool × Unit) × Int × Bool × Unit)) := partG_d ((0, (0, (0, (false, ())))) : (Int × Int × Int × Bool × Unit)) gadd1
def partT [Lk] (v : (List (Int × Int × Int × Bool × Unit) × Int × Int × Int × Unit)) : Option ((List (Int × Int × Int × Bool × Unit) × Int × Bool × Unit)) := partG ((0, (0, (0, (false, ())))) : (Int × Int × Int × Bool × Unit)) gadd1 v
theorem partT_eq v : partT v = partT_d v := lock_eq _
-- slices.pdqsortCmpFunc[archipelago/api.Tie]
abbrev pdqT_i : Items := [(.tmp 0, .own 42 (.prod (.int .i64) (.prod (.int .i64) (.prod (.int .i64) (.prod .bool .unit))))), (.tmp 1, .di), (.tmp 2, .di), (.tmp 3, .di), (.tmp 4, .clo 42 [])]
abbrev pdqT_o : Items := [(.obj 0, .own 42 (.prod (.int .i64) (.prod (.int .i64) (.prod (.int .i64) (.prod .bool .unit)))))]
abbrev pdqT_r : List RS := []
abbrev pdqT_i0 : Items := [(.obj 0, .own 42 (.prod (.int .i64) (.prod (.int .i64) (.prod (.int .i64) (.prod .bool .unit))))), (.tmp 0, .own' 0), (.tmp 1, .di), (.tmp 2, .di), (.tmp 3, .di), (.tmp 4, .clo 42 []), (.tmp 10, .dat .bool), (.tmp 11, .dat .bool)]
abbrev pdqT_o0 : Outs := [(.ret, [(.obj 0, .own 42 (.prod (.int .i64) (.prod (.int .i64) (.prod (.int .i64) (.prod .bool .unit)))))])]
def pdqT_s0 [Lk] (self : (List (Int × Int × Int × Bool × Unit) × Int × Int × Int × Unit) → Option ((List (Int × Int × Int × Bool × Unit) × Unit))) : (List (Int × Int × Int × Bool × Unit) × Int × Int × Int × Bool × Bool × Unit) → Option ((List (Int × Int × Int × Bool × Unit) × Int × Int × Int × Bool × Bool × Unit) ⊕ (List (Int × Int × Int × Bool × Unit) × Unit) ⊕ Unit) := pdqG_s0 ((0, (0, (0, (false, ())))) : (Int × Int × Int × Bool × Unit)) gadd1 self
def pdqT_d [Lk] (self : (List (Int × Int × Int × Bool × Unit) × Int × Int × Int × Unit) → Option ((List (Int × Int × Int × Bool × Unit) × Unit))) : (List (Int × Int × Int × Bool × Unit) × Int × Int × Int × Unit) → Option ((List (Int × Int × Int × Bool × Unit) × Unit)) := pdqG_d ((0, (0, (0, (false, ())))) : (Int × Int × Int × Bool × Unit)) gadd1 self
def pdqT_f [Lk] : Nat → (List (Int × Int × Int × Bool × Unit) × Int × Int × Int × Unit) → Option ((List (Int × Int × Int × Bool × Unit) × Unit)) := pdqG_f ((0, (0, (0, (false, ())))) : (Int × Int × Int × Bool × Unit)) gadd1
def pdqT [Lk] (v : (List (Int × Int × Int × Bool × Unit) × Int × Int × Int × Unit)) : Option ((List (Int × Int × Int × Bool × Unit) × Unit)) := pdqG ((0, (0, (0, (false, ())))) : (Int × Int × Int × Bool × Unit)) gadd1 v
theorem pdqT_eq v : pdqT v = pdqT_f 100 v := lock_eq _
-- slices.SortFunc[[]archipelago/api.Tie,archipelago/api.Tie]
abbrev sortT_i : Items := [(.tmp 0, .own 42 (.prod (.int .i64) (.prod (.int .i64) (.prod (.int .i64) (.prod .bool .unit))))), (.tmp 1, .clo 42 [])]
abbrev sortT_o : Items := [(.obj 0, .own 42 (.prod (.int .i64) (.prod (.int .i64) (.prod (.int .i64) (.prod .bool .unit)))))]
abbrev sortT_r : List RS := []
def sortT_d [Lk] : (List (Int × Int × Int × Bool × Unit) × Unit) → Option ((List (Int × Int × Int × Bool × Unit) × Unit)) := sortG_d ((0, (0, (0, (false, ())))) : (Int × Int × Int × Bool × Unit)) gadd1
def sortT [Lk] (v : (List (Int × Int × Int × Bool × Unit) × Unit)) : Option ((List (Int × Int × Int × Bool × Unit) × Unit)) := sortG ((0, (0, (0, (false, ())))) : (Int × Int × Int × Bool × Unit)) gadd1 v
theorem sortT_eq v : sortT v = sortT_d v := lock_eq _
-- slices.Grow[[]archipelago/api.Edge,archipelago/api.Edge]
abbrev growE_i : Items := [(.tmp 0, .nil (.prod (.int .i64) (.prod (.int .i64) .unit))), (.tmp 1, .di)]
abbrev growE_o : Items := [(.tmp 0, .own 72 (.prod (.int .i64) (.prod (.int .i64) .unit)))]
abbrev growE_r : List RS := [.one]
def growE_d [Lk] : (Int × Unit) → Option ((List (Int × Int × Unit) × Unit)) := fun (a0, _) =>
 match (ilt a0 0) with
 | true => none
 | false => match (ilt 0 (IntKind.wrap .i64 (a0 - (IntKind.wrap .i64 (0 - 0))))) with
  | true => match subl ([] : List Unit) 0 0 with
   | none => none
   | some _u0 => match (fitsI (IntKind.wrap .i64 (a0 - (IntKind.wrap .i64 (0 - 0))))) with
    | true => match subl (drep (dnat (IntKind.wrap .i64 (a0 - (IntKind.wrap .i64 ((0 : Int) - (0 : Int)))))) ((0 : Int), ((0 : Int), ()))) (0 : Int) (0 : Int) with
     | none => none
     | some x1 => some ((dtake (dnat (dlen x1)) (drep (dnat (IntKind.wrap .i64 (a0 - (IntKind.wrap .i64 ((0 : Int) - (0 : Int)))))) ((0 : Int), ((0 : Int), ())))), ())
    | false => none
  | false => some (([] : List (Int × Int × Unit)), ())
def growE [Lk] := fun v => Lk.f (growE_d v)
theorem growE_eq v : growE v = growE_d v := lock_eq _
-- slices.Concat[[]archipelago/api.Edge,archipelago/api.Edge]
abbrev concatE_i : Items := [(.tmp 0, .dat (.slice (.slice (.prod (.int .i64) (.prod (.int .i64) .unit)))))]
abbrev concatE_o : Items := [(.tmp 0, .own 72 (.prod (.int .i64) (.prod (.int .i64) .unit)))]
abbrev concatE_r : List RS := [.one]
abbrev concatE_i1 : Items := [(.tmp 6, .own 72 (.prod (.int .i64) (.prod (.int .i64) .unit))), (.tmp 25, .dat (.slice (.slice (.prod (.int .i64) (.prod (.int .i64) .unit))))), (.tmp 26, .di), (.tmp 27, .di)]
abbrev concatE_o1 : Outs := [(.exit 2, [(.tmp 6, .own 72 (.prod (.int .i64) (.prod (.int .i64) .unit)))])]
def concatE_s1 [Lk] : (List (Int × Int × Unit) × List (List (Int × Int × Unit)) × Int × Int × Unit) → Option ((List (Int × Int × Unit) × List (List (Int × Int × Unit)) × Int × Int × Unit) ⊕ (List (Int × Int × Unit) × Unit) ⊕ Unit) := fun (a0, a1, a2, a3, _) =>
 match (ilt a3 a2) with
 | true => match idx a1 a3 with
  | none => none
  | some x0 => match (fits ((dlen a0) + (dlen x0))) with
   | true => some (.inl ((dapp a0 x0), a1, a2, (IntKind.wrap .i64 (a3 + 1)), ()))
   | false => none
 | false => some (.inr (.inl (a0, ())))
abbrev concatE_i0 : Items := [(.tmp 0, .dat (.slice (.slice (.prod (.int .i64) (.prod (.int .i64) .unit))))), (.tmp 3, .di), (.tmp 9, .dat (.slice (.slice (.prod (.int .i64) (.prod (.int .i64) .unit))))), (.tmp 10, .di), (.tmp 11, .di)]
abbrev concatE_o0 : Outs := [(.exit 0, [(.tmp 0, .dat (.slice (.slice (.prod (.int .i64) (.prod (.int .i64) .unit))))), (.tmp 3, .di)])]
def concatE_s0 [Lk] : (List (List (Int × Int × Unit)) × Int × List (List (Int × Int × Unit)) × Int × Int × Unit) → Option ((List (List (Int × Int × Unit)) × Int × List (List (Int × Int × Unit)) × Int × Int × Unit) ⊕ (List (List (Int × Int × Unit)) × Int × Unit) ⊕ Unit) := fun (a0, a1, a2, a3, a4, _) =>
 match (ilt a4 a3) with
 | true => match idx a2 a4 with
  | none => none
  | some x0 => match (ilt (IntKind.wrap .i64 (a1 + (dlen x0))) 0) with
   | true => none
   | false => some (.inl (a0, (IntKind.wrap .i64 (a1 + (dlen x0))), a2, a3, (IntKind.wrap .i64 (a4 + 1)), ()))
 | false => some (.inr (.inl (a0, a1, ())))
def concatE_d [Lk] : (List (List (Int × Int × Unit)) × Unit) → Option ((List (Int × Int × Unit) × Unit)) := fun (a0, _) =>
 match iterL concatE_s0 many (a0, 0, a0, (dlen a0), 0, ()) with
 | none => none
 | some r => match r with
  | .inl (o0, o1, _) => match growE (o1, ()) with
   | none => none
   | some (y2, _) => match iterL concatE_s1 many (y2, o0, (dlen o0), 0, ()) with
    | none => none
    | some r => match r with
     | .inl (o3, _) => some (o3, ())
     | .inr _ => none
  | .inr _ => none
def concatE [Lk] := fun v => Lk.f (concatE_d v)
theorem concatE_eq v : concatE v = concatE_d v := lock_eq _
end
end Go.Pev
end
section
namespace Go.Pev
set_option maxRecDepth 100000
noncomputable section
attribute [local irreducible] fitsR fitsIR idxR sublR iltR ileR ieqR quoR remR shlR shrR cloneR iterO many IntKind.wrap dlen dset dget dapp dtake dcut drep dnat dclear imin imax lookupM storeM
-- archipelago/level.Forest
abbrev lforest_i : Items := [(.tmp 0, .dat (.prod (.int .i64) (.prod (.slice (.prod (.int .i64) (.prod (.int .i64) (.prod (.int .i64) (.prod .bool .unit))))) .unit))), (.tmp 1, .di)]
abbrev lforest_o : Items := [(.tmp 0, .dat (.prod (.int .i64) (.prod (.slice (.slice (.int .i64))) .unit))), (.tmp 1, .di)]
abbrev lforest_r : List RS := [.one, .one]
def lforest_d [Lk] : ((Int × (List (Int × Int × Int × Bool × Unit)) × Unit) × Int × Unit) → Option (((Int × (List (List Int)) × Unit) × Int × Unit)) := fun (a0, a1, _) =>
 match lright ((a0.1, (a0.2.1, ())), ()) with
 | none => none
 | some (y0, _) => match (!y0) with
  | true => some ((0, (([] : List (List Int)), ())), 1, ())
  | false => match ltrees ((a0.1, (a0.2.1, ())), a1, ()) with
   | none => none
   | some (y1, _) => match fof (a0.1, y1, ()) with
    | none => none
    | some (y2, y3, _) => some ((y2.1, (y2.2.1, ())), y3, ())
def lforest [Lk] := fun v => Lk.f (lforest_d v)
theorem lforest_eq v : lforest v = lforest_d v := lock_eq _
-- archipelago/span.Contract
abbrev scontract_i : Items := [(.tmp 0, .dat (.prod (.int .i64) (.prod (.slice (.slice (.int .i64))) .unit))), (.tmp 1, .dat (.slice (.prod (.int .i64) (.prod (.int .i64) .unit))))]
abbrev scontract_o : Items := [(.tmp 0, .own 72 (.prod (.int .i64) (.prod (.int .i64) .unit))), (.tmp 1, .di)]
abbrev scontract_r : List RS := [.one, .one]
abbrev scontract_i0 : Items := [(.tmp 2, .box 2), (.cell 0 0, .di), (.cell 0 1, .dat (.slice (.slice (.int .i64)))), (.tmp 7, .own 72 (.prod (.int .i64) (.prod (.int .i64) .unit))), (.tmp 24, .dat (.slice (.prod (.int .i64) (.prod (.int .i64) .unit)))), (.tmp 25, .di), (.tmp 26, .di)]
abbrev scontract_o0 : Outs := [(.exit 0, [(.tmp 7, .own 72 (.prod (.int .i64) (.prod (.int .i64) .unit)))])]
def scontract_s0 [Lk] : (Int × List (List Int) × List (Int × Int × Unit) × List (Int × Int × Unit) × Int × Int × Unit) → Option ((Int × List (List Int) × List (Int × Int × Unit) × List (Int × Int × Unit) × Int × Int × Unit) ⊕ (List (Int × Int × Unit) × Unit) ⊕ Unit) := fun (a0, a1, a2, a3, a4, a5, _) =>
 match (ilt a5 a4) with
 | true => match idx a3 a5 with
  | none => none
  | some x0 => match fleast ((a0, (a1, ())), x0.1, ()) with
   | none => none
   | some (y1, y2, _) => match fleast ((a0, (a1, ())), x0.2.1, ()) with
    | none => none
    | some (y3, y4, _) => match (fits ((dlen a2) + (dlen ([(y1, (y3, ()))] : List (Int × Int × Unit))))) with
     | true => some (.inl (a0, a1, (dapp a2 ([(y1, (y3, ()))] : List (Int × Int × Unit))), a3, a4, (IntKind.wrap .i64 (a5 + 1)), ()))
     | false => none
 | false => some (.inr (.inl (a2, ())))
def scontract_d [Lk] : ((Int × (List (List Int)) × Unit) × List (Int × Int × Unit) × Unit) → Option ((List (Int × Int × Unit) × Int × Unit)) := fun (a0, a1, _) =>
 match tright ((a0.1, (a0.2.1, ())), ()) with
 | none => none
 | some (y0, _) => match (!y0) with
  | true => some (([] : List (Int × Int × Unit)), 1, ())
  | false => match sasked (a0.1, a1, ()) with
   | none => none
   | some (y1, _) => match (!(ieq y1 0)) with
    | true => some (([] : List (Int × Int × Unit)), y1, ())
    | false => match iterL scontract_s0 many (a0.1, a0.2.1, ([] : List (Int × Int × Unit)), a1, (dlen a1), 0, ()) with
     | none => none
     | some r => match r with
      | .inl (o2, _) => some (o2, 0, ())
      | .inr _ => none
def scontract [Lk] := fun v => Lk.f (scontract_d v)
theorem scontract_eq v : scontract v = scontract_d v := lock_eq _
-- archipelago/span.Choose
abbrev schoose_i : Items := [(.tmp 0, .dat (.prod (.int .i64) (.prod (.slice (.slice (.int .i64))) .unit))), (.tmp 1, .dat (.slice (.prod (.int .i64) (.prod (.int .i64) .unit))))]
abbrev schoose_o : Items := [(.tmp 0, .own 4 .bool), (.tmp 1, .di)]
abbrev schoose_r : List RS := [.one, .one]
def schoose_d [Lk] : ((Int × (List (List Int)) × Unit) × List (Int × Int × Unit) × Unit) → Option ((List Bool × Int × Unit)) := fun (a0, a1, _) =>
 match scontract ((a0.1, (a0.2.1, ())), a1, ()) with
 | none => none
 | some (y0, y1, _) => match (!(ieq y1 0)) with
  | true => some (([] : List (Bool)), y1, ())
  | false => match salone (a0.1, ()) with
   | none => none
   | some (y2, _) => match sjoins (y2, y0, ()) with
    | none => none
    | some (y3, y4, _) => some (y4, 0, ())
def schoose [Lk] := fun v => Lk.f (schoose_d v)
theorem schoose_eq v : schoose v = schoose_d v := lock_eq _
-- archipelago/span.Count
abbrev scount_i : Items := [(.tmp 0, .di), (.tmp 1, .dat (.slice (.prod (.int .i64) (.prod (.int .i64) .unit))))]
abbrev scount_o : Items := [(.tmp 0, .di), (.tmp 1, .di)]
abbrev scount_r : List RS := [.one, .one]
abbrev scount_i0 : Items := [(.tmp 7, .di), (.tmp 8, .di), (.tmp 17, .own 3 (.int .i64)), (.tmp 18, .di), (.tmp 19, .di)]
abbrev scount_o0 : Outs := [(.exit 0, [(.tmp 7, .di), (.tmp 8, .di)])]
def scount_s0 [Lk] : (Int × Int × List Int × Int × Int × Unit) → Option ((Int × Int × List Int × Int × Int × Unit) ⊕ (Int × Int × Unit) ⊕ Unit) := fun (a0, a1, a2, a3, a4, _) =>
 match (ilt a4 a3) with
 | true => match idx a2 a4 with
  | none => none
  | some x0 => match (ieq (dget a2 (dnat a4) 0) a4) with
   | true => some (.inl (a0, (IntKind.wrap .i64 (a1 + 1)), a2, a3, (IntKind.wrap .i64 (a4 + 1)), ()))
   | false => some (.inl (a0, a1, a2, a3, (IntKind.wrap .i64 (a4 + 1)), ()))
 | false => some (.inr (.inl (a0, a1, ())))
def scount_d [Lk] : (Int × List (Int × Int × Unit) × Unit) → Option ((Int × Int × Unit)) := fun (a0, a1, _) =>
 match sclasses (a0, a1, ()) with
 | none => none
 | some (y0, y1, _) => match iterL scount_s0 many (y1, 0, y0, (dlen y0), 0, ()) with
  | none => none
  | some r => match r with
   | .inl (o2, o3, _) => some (o3, o2, ())
   | .inr _ => none
def scount [Lk] := fun v => Lk.f (scount_d v)
theorem scount_eq v : scount v = scount_d v := lock_eq _
-- archipelago/grow.New
abbrev gnew_i : Items := [(.tmp 0, .dat (.prod (.int .i64) (.prod (.slice (.prod (.int .i64) (.prod (.int .i64) (.prod (.int .i64) (.prod .bool .unit))))) .unit))), (.tmp 1, .dat (.slice (.prod (.int .i64) (.prod (.int .i64) .unit))))]
abbrev gnew_o : Items := [(.tmp 0, .own 72 (.prod (.int .i64) (.prod (.int .i64) .unit))), (.tmp 1, .di)]
abbrev gnew_r : List RS := [.one, .one]
abbrev gnew_i1 : Items := [(.tmp 2, .box 2), (.cell 0 0, .di), (.cell 0 1, .dat (.slice (.prod (.int .i64) (.prod (.int .i64) (.prod (.int .i64) (.prod .bool .unit)))))), (.tmp 6, .map (.prod (.int .i64) (.prod (.int .i64) .unit)) (.int .i64)), (.tmp 9, .own 72 (.prod (.int .i64) (.prod (.int .i64) .unit))), (.tmp 26, .dat (.slice (.prod (.int .i64) (.prod (.int .i64) .unit)))), (.tmp 27, .di), (.tmp 28, .di)]
abbrev gnew_o1 : Outs := [(.ret, [(.tmp 4, .nil (.prod (.int .i64) (.prod (.int .i64) .unit))), (.tmp 5, .di)]), (.exit 2, [(.tmp 9, .own 72 (.prod (.int .i64) (.prod (.int .i64) .unit)))])]
def gnew_s1 [Lk] : (Int × List (Int × Int × Int × Bool × Unit) × List ((Int × Int × Unit) × Int) × List (Int × Int × Unit) × List (Int × Int × Unit) × Int × Int × Unit) → Option ((Int × List (Int × Int × Int × Bool × Unit) × List ((Int × Int × Unit) × Int) × List (Int × Int × Unit) × List (Int × Int × Unit) × Int × Int × Unit) ⊕ (Int × Unit) ⊕ (List (Int × Int × Unit) × Unit) ⊕ Unit) := fun (a0, a1, a2, a3, a4, a5, a6, _) =>
 match (ilt a6 a5) with
 | true => match idx a4 a6 with
  | none => none
  | some x0 => match (ilt (imin x0.1 x0.2.1) 0) with
   | true => some (.inr (.inl (10, ())))
   | false => match (ile a0 (imax x0.1 x0.2.1)) with
    | true => some (.inr (.inl (10, ())))
    | false => match (ilt (imin x0.1 x0.2.1) (imax x0.1 x0.2.1)) with
     | true => match (ieq ((lookupM a2 ((imin x0.1 x0.2.1), ((imax x0.1 x0.2.1), ()))).getD 0) 0) with
      | true => match (fits ((dlen a3) + (dlen ([((imin x0.1 x0.2.1), ((imax x0.1 x0.2.1), ()))] : List (Int × Int × Unit))))) with
       | true => some (.inl (a0, a1, (storeM a2 ((imin x0.1 x0.2.1), ((imax x0.1 x0.2.1), ())) 1), (dapp a3 ([((imin x0.1 x0.2.1), ((imax x0.1 x0.2.1), ()))] : List (Int × Int × Unit))), a4, a5, (IntKind.wrap .i64 (a6 + 1)), ()))
       | false => none
      | false => some (.inl (a0, a1, a2, a3, a4, a5, (IntKind.wrap .i64 (a6 + 1)), ()))
     | false => some (.inl (a0, a1, a2, a3, a4, a5, (IntKind.wrap .i64 (a6 + 1)), ()))
 | false => some (.inr (.inr (.inl (a3, ()))))
abbrev gnew_i0 : Items := [(.tmp 1, .dat (.slice (.prod (.int .i64) (.prod (.int .i64) .unit)))), (.tmp 2, .box 2), (.cell 0 0, .di), (.cell 0 1, .dat (.slice (.prod (.int .i64) (.prod (.int .i64) (.prod (.int .i64) (.prod .bool .unit)))))), (.tmp 6, .map (.prod (.int .i64) (.prod (.int .i64) .unit)) (.int .i64)), (.tmp 17, .own 72 (.prod (.int .i64) (.prod (.int .i64) .unit))), (.tmp 18, .di), (.tmp 19, .di)]
abbrev gnew_o0 : Outs := [(.exit 0, [(.tmp 1, .dat (.slice (.prod (.int .i64) (.prod (.int .i64) .unit)))), (.tmp 2, .box 2), (.cell 0 0, .di), (.cell 0 1, .dat (.slice (.prod (.int .i64) (.prod (.int .i64) (.prod (.int .i64) (.prod .bool .unit)))))), (.tmp 6, .map (.prod (.int .i64) (.prod (.int .i64) .unit)) (.int .i64))])]
def gnew_s0 [Lk] : (List (Int × Int × Unit) × Int × List (Int × Int × Int × Bool × Unit) × List ((Int × Int × Unit) × Int) × List (Int × Int × Unit) × Int × Int × Unit) → Option ((List (Int × Int × Unit) × Int × List (Int × Int × Int × Bool × Unit) × List ((Int × Int × Unit) × Int) × List (Int × Int × Unit) × Int × Int × Unit) ⊕ (List (Int × Int × Unit) × Int × List (Int × Int × Int × Bool × Unit) × List ((Int × Int × Unit) × Int) × Unit) ⊕ Unit) := fun (a0, a1, a2, a3, a4, a5, a6, _) =>
 match (ilt a6 a5) with
 | true => match idx a4 a6 with
  | none => none
  | some x0 => some (.inl (a0, a1, a2, (storeM a3 ((dget a4 (dnat a6) (0, (0, ()))).1, ((dget a4 (dnat a6) (0, (0, ()))).2.1, ())) 1), a4, a5, (IntKind.wrap .i64 (a6 + 1)), ()))
 | false => some (.inr (.inl (a0, a1, a2, a3, ())))
def gnew_d [Lk] : ((Int × (List (Int × Int × Int × Bool × Unit)) × Unit) × List (Int × Int × Unit) × Unit) → Option ((List (Int × Int × Unit) × Int × Unit)) := fun (a0, a1, _) =>
 match lright ((a0.1, (a0.2.1, ())), ()) with
 | none => none
 | some (y0, _) => match (!y0) with
  | true => some (([] : List (Int × Int × Unit)), 1, ())
  | false => match ledges ((a0.1, (a0.2.1, ())), ()) with
   | none => none
   | some (y1, _) => match iterL gnew_s0 many (a1, a0.1, a0.2.1, ([] : List ((Int × Int × Unit) × Int)), y1, (dlen y1), 0, ()) with
    | none => none
    | some r => match r with
     | .inl (o2, o3, o4, o5, _) => match iterL gnew_s1 many (o3, o4, o5, ([] : List (Int × Int × Unit)), o2, (dlen o2), 0, ()) with
      | none => none
      | some r => match r with
       | .inl (o6, _) => some (([] : List (Int × Int × Unit)), o6, ())
       | .inr r => match r with
        | .inl (o7, _) => match sortE (o7, ()) with
         | none => none
         | some (y8, _) => some (y8, 0, ())
        | .inr _ => none
     | .inr _ => none
def gnew [Lk] := fun v => Lk.f (gnew_d v)
theorem gnew_eq v : gnew v = gnew_d v := lock_eq _
-- archipelago/grow.room
abbrev groom_i : Items := [(.tmp 0, .dat (.prod (.int .i64) (.prod (.slice (.prod (.int .i64) (.prod (.int .i64) (.prod (.int .i64) (.prod .bool .unit))))) .unit))), (.tmp 1, .di)]
abbrev groom_o : Items := [(.tmp 0, .dat .bool)]
abbrev groom_r : List RS := [.one]
def groom_d [Lk] : ((Int × (List (Int × Int × Int × Bool × Unit)) × Unit) × Int × Unit) → Option ((Bool × Unit)) := fun (a0, a1, _) =>
 some ((ile (IntKind.wrap .i64 ((dlen a0.2.1) + a1)) 400), ())
def groom [Lk] := fun v => Lk.f (groom_d v)
theorem groom_eq v : groom v = groom_d v := lock_eq _
-- archipelago/grow.Fits
abbrev gfits_i : Items := [(.tmp 0, .dat (.prod (.int .i64) (.prod (.slice (.prod (.int .i64) (.prod (.int .i64) (.prod (.int .i64) (.prod .bool .unit))))) .unit))), (.tmp 1, .dat (.slice (.prod (.int .i64) (.prod (.int .i64) .unit))))]
abbrev gfits_o : Items := [(.tmp 0, .dat .bool)]
abbrev gfits_r : List RS := [.one]
def gfits_d [Lk] : ((Int × (List (Int × Int × Int × Bool × Unit)) × Unit) × List (Int × Int × Unit) × Unit) → Option ((Bool × Unit)) := fun (a0, a1, _) =>
 match gnew ((a0.1, (a0.2.1, ())), a1, ()) with
 | none => none
 | some (y0, y1, _) => match (ieq y1 0) with
  | true => match groom ((a0.1, (a0.2.1, ())), (dlen y0), ()) with
   | none => none
   | some (y2, _) => some (y2, ())
  | false => some (false, ())
def gfits [Lk] := fun v => Lk.f (gfits_d v)
theorem gfits_eq v : gfits v = gfits_d v := lock_eq _
-- archipelago/grow.Add
abbrev gadd_i : Items := [(.tmp 0, .dat (.prod (.int .i64) (.prod (.slice (.prod (.int .i64) (.prod (.int .i64) (.prod (.int .i64) (.prod .bool .unit))))) .unit))), (.tmp 1, .dat (.slice (.prod (.int .i64) (.prod (.int .i64) .unit))))]
abbrev gadd_o : Items := [(.tmp 0, .di), (.tmp 1, .dat (.slice (.prod (.int .i64) (.prod (.int .i64) (.prod (.int .i64) (.prod .bool .unit)))))), (.tmp 2, .di), (.tmp 3, .di)]
abbrev gadd_r : List RS := [.agg 2, .one, .one]
abbrev gadd_i0 : Items := [(.tmp 2, .box 2), (.cell 0 0, .di), (.cell 0 1, .dat (.slice (.prod (.int .i64) (.prod (.int .i64) (.prod (.int .i64) (.prod .bool .unit)))))), (.tmp 4, .box 2), (.cell 1 0, .di), (.cell 1 1, .nil (.prod (.int .i64) (.prod (.int .i64) (.prod (.int .i64) (.prod .bool .unit))))), (.tmp 7, .own 72 (.prod (.int .i64) (.prod (.int .i64) .unit))), (.tmp 11, .own 4 .bool), (.tmp 13, .own 42 (.prod (.int .i64) (.prod (.int .i64) (.prod (.int .i64) (.prod .bool .unit))))), (.tmp 46, .own' 2), (.tmp 47, .di), (.tmp 48, .di)]
abbrev gadd_o0 : Outs := [(.exit 0, [(.tmp 2, .box 2), (.cell 0 0, .di), (.cell 0 1, .dat (.slice (.prod (.int .i64) (.prod (.int .i64) (.prod (.int .i64) (.prod .bool .unit)))))), (.tmp 4, .box 2), (.cell 1 0, .di), (.cell 1 1, .nil (.prod (.int .i64) (.prod (.int .i64) (.prod (.int .i64) (.prod .bool .unit))))), (.tmp 7, .own 72 (.prod (.int .i64) (.prod (.int .i64) .unit))), (.tmp 13, .own 42 (.prod (.int .i64) (.prod (.int .i64) (.prod (.int .i64) (.prod .bool .unit)))))])]
def gadd_s0 [Lk] : (Int × List (Int × Int × Int × Bool × Unit) × Int × List (Int × Int × Unit) × List Bool × List (Int × Int × Int × Bool × Unit) × Int × Int × Unit) → Option ((Int × List (Int × Int × Int × Bool × Unit) × Int × List (Int × Int × Unit) × List Bool × List (Int × Int × Int × Bool × Unit) × Int × Int × Unit) ⊕ (Int × List (Int × Int × Int × Bool × Unit) × Int × List (Int × Int × Unit) × List (Int × Int × Int × Bool × Unit) × Unit) ⊕ Unit) := fun (a0, a1, a2, a3, a4, a5, a6, a7, _) =>
 match (ilt a7 a6) with
 | true => match idx a3 a7 with
  | none => none
  | some x0 => match idx a4 a7 with
   | none => none
   | some x1 => match (fits ((dlen a5) + (dlen ([((dget a3 (dnat a7) (0, (0, ()))).1, ((dget a3 (dnat a7) (0, (0, ()))).2.1, (0, ((dget a4 (dnat a7) false), ()))))] : List (Int × Int × Int × Bool × Unit))))) with
    | true => some (.inl (a0, a1, a2, a3, a4, (dapp a5 ([((dget a3 (dnat a7) (0, (0, ()))).1, ((dget a3 (dnat a7) (0, (0, ()))).2.1, (0, ((dget a4 (dnat a7) false), ()))))] : List (Int × Int × Int × Bool × Unit))), a6, (IntKind.wrap .i64 (a7 + 1)), ()))
    | false => none
 | false => some (.inr (.inl (a0, a1, a2, a3, a5, ())))
def gadd_d [Lk] : ((Int × (List (Int × Int × Int × Bool × Unit)) × Unit) × List (Int × Int × Unit) × Unit) → Option ((Int × List (Int × Int × Int × Bool × Unit) × Int × Int × Unit)) := fun (a0, a1, _) =>
 match gnew ((a0.1, (a0.2.1, ())), a1, ()) with
 | none => none
 | some (y0, y1, _) => match (!(ieq y1 0)) with
  | true => some (a0.1, a0.2.1, 0, y1, ())
  | false => match groom ((a0.1, (a0.2.1, ())), (dlen y0), ()) with
   | none => none
   | some (y2, _) => match (!y2) with
    | true => some (a0.1, a0.2.1, 0, 2, ())
    | false => match lforest ((a0.1, (a0.2.1, ())), 0, ()) with
     | none => none
     | some (y3, y4, _) => match schoose ((y3.1, (y3.2.1, ())), y0, ()) with
      | none => none
      | some (y5, y6, _) => match cloneF a0.2.1 with
       | none => none
       | some x7 => match iterL gadd_s0 many (a0.1, a0.2.1, 0, y0, y5, x7, (dlen y0), 0, ()) with
        | none => none
        | some r => match r with
         | .inl (o8, o9, o10, o11, o12, _) => match sortT (o12, ()) with
          | none => none
          | some (y13, _) => some (o8, y13, (dlen o11), 0, ())
         | .inr _ => none
def gadd [Lk] := fun v => Lk.f (gadd_d v)
theorem gadd_eq v : gadd v = gadd_d v := lock_eq _
-- archipelago/grow.Joined
abbrev gjoined_i : Items := [(.tmp 0, .dat (.prod (.int .i64) (.prod (.slice (.prod (.int .i64) (.prod (.int .i64) (.prod (.int .i64) (.prod .bool .unit))))) .unit))), (.tmp 1, .dat (.slice (.prod (.int .i64) (.prod (.int .i64) .unit))))]
abbrev gjoined_o : Items := [(.tmp 0, .di), (.tmp 1, .di)]
abbrev gjoined_r : List RS := [.one, .one]
def gjoined_d [Lk] : ((Int × (List (Int × Int × Int × Bool × Unit)) × Unit) × List (Int × Int × Unit) × Unit) → Option ((Int × Int × Unit)) := fun (a0, a1, _) =>
 match gnew ((a0.1, (a0.2.1, ())), a1, ()) with
 | none => none
 | some (y0, y1, _) => match (!(ieq y1 0)) with
  | true => some (0, y1, ())
  | false => match ledges ((a0.1, (a0.2.1, ())), ()) with
   | none => none
   | some (y2, _) => match scount (a0.1, y2, ()) with
    | none => none
    | some (y3, y4, _) => match concatE (([y2, y0] : List (List (Int × Int × Unit))), ()) with
     | none => none
     | some (y5, _) => match scount (a0.1, y5, ()) with
      | none => none
      | some (y6, y7, _) => some ((IntKind.wrap .i64 (y3 - y6)), 0, ())
def gjoined [Lk] := fun v => Lk.f (gjoined_d v)
theorem gjoined_eq v : gjoined v = gjoined_d v := lock_eq _
-- archipelago/archipelagolaw22.alive
abbrev alive22_i : Items := []
abbrev alive22_o : Items := [(.tmp 0, .dat .bool)]
abbrev alive22_r : List RS := [.one]
def alive22_d [Lk] : (Unit) → Option ((Bool × Unit)) := fun _ =>
 match gnew ((4, (([(1, (3, (1, (true, ()))))] : List (Int × Int × Int × Bool × Unit)), ())), ([(3, (0, ())), (3, (1, ())), (0, (1, ())), (2, (2, ())), (0, (3, ()))] : List (Int × Int × Unit)), ()) with
 | none => none
 | some (y0, y1, _) => match gadd ((4, (([(1, (3, (1, (true, ()))))] : List (Int × Int × Int × Bool × Unit)), ())), ([(3, (0, ())), (3, (1, ())), (0, (1, ())), (2, (2, ())), (0, (3, ()))] : List (Int × Int × Unit)), ()) with
  | none => none
  | some (y2, y3, y4, y5, _) => match gjoined ((4, (([(1, (3, (1, (true, ()))))] : List (Int × Int × Int × Bool × Unit)), ())), ([(3, (0, ())), (3, (1, ())), (0, (1, ())), (2, (2, ())), (0, (3, ()))] : List (Int × Int × Unit)), ()) with
   | none => none
   | some (y6, y7, _) => match gnew ((4, (([(1, (3, (1, (true, ()))))] : List (Int × Int × Int × Bool × Unit)), ())), ([(4, (0, ()))] : List (Int × Int × Unit)), ()) with
    | none => none
    | some (y8, y9, _) => match (ieq y1 0) with
     | true => match (ieq y5 0) with
      | true => match (ieq y7 0) with
       | true => match (ieq y9 10) with
        | true => match same11 (y0, ([(0, (1, ())), (0, (3, ()))] : List (Int × Int × Unit)), ()) with
         | none => none
         | some (y10, _) => match y10 with
          | true => match (ieq y4 2) with
           | true => match (ieq y6 1) with
            | true => match gfits ((4, (([(1, (3, (1, (true, ()))))] : List (Int × Int × Int × Bool × Unit)), ())), ([(3, (0, ())), (3, (1, ())), (0, (1, ())), (2, (2, ())), (0, (3, ()))] : List (Int × Int × Unit)), ()) with
             | none => none
             | some (y11, _) => match y11 with
              | true => match same21 ((y2, (y3, ())), (4, (([(0, (1, (0, (true, ())))), (0, (3, (0, (false, ())))), (1, (3, (1, (true, ()))))] : List (Int × Int × Int × Bool × Unit)), ())), ()) with
               | none => none
               | some (y12, _) => some (y12, ())
              | false => some (false, ())
            | false => some (false, ())
           | false => some (false, ())
          | false => some (false, ())
        | false => some (false, ())
       | false => some (false, ())
      | false => some (false, ())
     | false => some (false, ())
def alive22 [Lk] := fun v => Lk.f (alive22_d v)
theorem alive22_eq v : alive22 v = alive22_d v := lock_eq _
-- archipelago/archipelagolaw22.great
abbrev great22_i : Items := [(.tmp 0, .dat (.prod (.int .i64) (.prod (.slice (.prod (.int .i64) (.prod (.int .i64) (.prod (.int .i64) (.prod .bool .unit))))) .unit))), (.tmp 1, .dat (.slice (.prod (.int .i64) (.prod (.int .i64) .unit))))]
abbrev great22_o : Items := [(.tmp 0, .dat .bool)]
abbrev great22_r : List RS := [.one]
def great22_d [Lk] : ((Int × (List (Int × Int × Int × Bool × Unit)) × Unit) × List (Int × Int × Unit) × Unit) → Option ((Bool × Unit)) := fun (a0, a1, _) =>
 match (ilt 40 (dlen a0.2.1)) with
 | true => some (true, ())
 | false => match (ilt 12 a0.1) with
  | true => some (true, ())
  | false => some ((ilt 30 (dlen a1)), ())
def great22 [Lk] := fun v => Lk.f (great22_d v)
theorem great22_eq v : great22 v = great22_d v := lock_eq _
-- archipelago/archipelagolaw22.GrowStays
abbrev growStays_i : Items := [(.tmp 0, .dat (.prod (.int .i64) (.prod (.slice (.prod (.int .i64) (.prod (.int .i64) (.prod (.int .i64) (.prod .bool .unit))))) .unit))), (.tmp 1, .dat (.slice (.prod (.int .i64) (.prod (.int .i64) .unit))))]
abbrev growStays_o : Items := [(.tmp 0, .dat .bool)]
abbrev growStays_r : List RS := [.one]
abbrev growStays_i1 : Items := [(.tmp 2, .box 2), (.cell 0 0, .di), (.cell 0 1, .dat (.slice (.prod (.int .i64) (.prod (.int .i64) (.prod (.int .i64) (.prod .bool .unit)))))), (.tmp 11, .own 3 (.int .i64)), (.tmp 12, .di), (.tmp 13, .own 3 (.int .i64)), (.tmp 14, .di), (.tmp 15, .own 3 (.int .i64)), (.tmp 16, .di), (.tmp 17, .own 3 (.int .i64)), (.tmp 18, .di), (.tmp 19, .di), (.tmp 20, .di), (.tmp 21, .own 3 (.int .i64)), (.tmp 22, .own 3 (.int .i64)), (.tmp 23, .di), (.tmp 24, .di)]
abbrev growStays_o1 : Outs := [(.exit 2, [(.tmp 11, .own 3 (.int .i64)), (.tmp 12, .di), (.tmp 13, .own 3 (.int .i64)), (.tmp 14, .di), (.tmp 15, .own 3 (.int .i64)), (.tmp 16, .di), (.tmp 17, .own 3 (.int .i64)), (.tmp 18, .di), (.tmp 19, .di), (.tmp 20, .di), (.tmp 23, .di)])]
def growStays_s1 [Lk] : (Int × List (Int × Int × Int × Bool × Unit) × List Int × Int × List Int × Int × List Int × Int × List Int × Int × Int × Int × List Int × List Int × Int × Int × Unit) → Option ((Int × List (Int × Int × Int × Bool × Unit) × List Int × Int × List Int × Int × List Int × Int × List Int × Int × Int × Int × List Int × List Int × Int × Int × Unit) ⊕ (List Int × Int × List Int × Int × List Int × Int × List Int × Int × Int × Int × Int × Unit) ⊕ Unit) := fun (a0, a1, a2, a3, a4, a5, a6, a7, a8, a9, a10, a11, a12, a13, a14, a15, _) =>
 match (ilt a15 a0) with
 | true => match idx a12 a15 with
  | none => none
  | some x0 => match (ieq (dget a12 (dnat a15) 0) a15) with
   | true => match idx a13 a15 with
    | none => none
    | some x1 => match (!(ieq (dget a13 (dnat a15) 0) a15)) with
     | true => some (.inl (a0, a1, a2, a3, a4, a5, a6, a7, a8, a9, a10, a11, a12, a13, (IntKind.wrap .i64 (a14 + 1)), (IntKind.wrap .i64 (a15 + 1)), ()))
     | false => some (.inl (a0, a1, a2, a3, a4, a5, a6, a7, a8, a9, a10, a11, a12, a13, a14, (IntKind.wrap .i64 (a15 + 1)), ()))
   | false => some (.inl (a0, a1, a2, a3, a4, a5, a6, a7, a8, a9, a10, a11, a12, a13, a14, (IntKind.wrap .i64 (a15 + 1)), ()))
 | false => some (.inr (.inl (a2, a3, a4, a5, a6, a7, a8, a9, a10, a11, a14, ())))
abbrev growStays_i0 : Items := [(.tmp 1, .dat (.slice (.prod (.int .i64) (.prod (.int .i64) .unit)))), (.tmp 2, .box 2), (.cell 0 0, .di), (.cell 0 1, .dat (.slice (.prod (.int .i64) (.prod (.int .i64) (.prod (.int .i64) (.prod .bool .unit)))))), (.tmp 6, .box 2), (.cell 1 0, .di), (.cell 1 1, .dat (.slice (.prod (.int .i64) (.prod (.int .i64) (.prod (.int .i64) (.prod .bool .unit)))))), (.tmp 9, .di)]
abbrev growStays_o0 : Outs := [(.ret, [(.tmp 4, .dat .bool)]), (.exit 0, [(.tmp 1, .dat (.slice (.prod (.int .i64) (.prod (.int .i64) .unit)))), (.tmp 2, .box 2), (.cell 0 0, .di), (.cell 0 1, .dat (.slice (.prod (.int .i64) (.prod (.int .i64) (.prod (.int .i64) (.prod .bool .unit)))))), (.tmp 6, .box 2), (.cell 1 0, .di), (.cell 1 1, .dat (.slice (.prod (.int .i64) (.prod (.int .i64) (.prod (.int .i64) (.prod .bool .unit))))))])]
def growStays_s0 [Lk] : (List (Int × Int × Unit) × Int × List (Int × Int × Int × Bool × Unit) × Int × List (Int × Int × Int × Bool × Unit) × Int × Unit) → Option ((List (Int × Int × Unit) × Int × List (Int × Int × Int × Bool × Unit) × Int × List (Int × Int × Int × Bool × Unit) × Int × Unit) ⊕ (Bool × Unit) ⊕ (List (Int × Int × Unit) × Int × List (Int × Int × Int × Bool × Unit) × Int × List (Int × Int × Int × Bool × Unit) × Unit) ⊕ Unit) := fun (a0, a1, a2, a3, a4, a5, _) =>
 match (ilt a5 (dlen a2)) with
 | true => match idx a2 a5 with
  | none => none
  | some x0 => match idx a2 a5 with
   | none => none
   | some x1 => match find21 ((a3, (a4, ())), x0.1, x1.2.1, ()) with
    | none => none
    | some (y2, _) => match (ilt y2 0) with
     | true => some (.inr (.inl (false, ())))
     | false => match idx a4 y2 with
      | none => none
      | some x3 => match idx a2 a5 with
       | none => none
       | some x4 => match (!(ieq x3.1 x4.1 && (ieq x3.2.1 x4.2.1 && (ieq x3.2.2.1 x4.2.2.1 && ((x3.2.2.2.1 == x4.2.2.2.1) && true))))) with
        | true => some (.inr (.inl (false, ())))
        | false => some (.inl (a0, a1, a2, a3, a4, (IntKind.wrap .i64 (a5 + 1)), ()))
 | false => some (.inr (.inr (.inl (a0, a1, a2, a3, a4, ()))))
def growStays_d [Lk] : ((Int × (List (Int × Int × Int × Bool × Unit)) × Unit) × List (Int × Int × Unit) × Unit) → Option ((Bool × Unit)) := fun (a0, a1, _) =>
 match alive22 () with
 | none => none
 | some (y0, _) => match (!y0) with
  | true => some (false, ())
  | false => match great22 ((a0.1, (a0.2.1, ())), a1, ()) with
   | none => none
   | some (y1, _) => match y1 with
    | true => some (true, ())
    | false => match (fits ((dlen ([] : List (Int × Int × Int × Bool × Unit))) + (dlen a0.2.1))) with
     | true => match gadd ((a0.1, ((dapp ([] : List (Int × Int × Int × Bool × Unit)) a0.2.1), ())), a1, ()) with
      | none => none
      | some (y2, y3, y4, y5, _) => match (!(ieq y5 0)) with
       | true => match same21 ((a0.1, ((dapp ([] : List (Int × Int × Int × Bool × Unit)) a0.2.1), ())), (a0.1, (a0.2.1, ())), ()) with
        | none => none
        | some (y6, _) => some (y6, ())
       | false => match same21 ((a0.1, ((dapp ([] : List (Int × Int × Int × Bool × Unit)) a0.2.1), ())), (a0.1, (a0.2.1, ())), ()) with
        | none => none
        | some (y7, _) => match (!y7) with
         | true => some (false, ())
         | false => match (!(ieq (dlen y3) (IntKind.wrap .i64 ((dlen a0.2.1) + y4)))) with
          | true => some (false, ())
          | false => match iterL growStays_s0 many (a1, a0.1, a0.2.1, y2, y3, 0, ()) with
           | none => none
           | some r => match r with
            | .inl (o8, _) => some (o8, ())
            | .inr r => match r with
             | .inl (o9, o10, o11, o12, o13, _) => match edges21 ((o10, (o11, ())), ()) with
              | none => none
              | some (y14, _) => match classes20 (o10, y14, ()) with
               | none => none
               | some (y15, y16, _) => match trees21 ((o10, (o11, ())), 0, ()) with
                | none => none
                | some (y17, _) => match classes20 (o10, y17, ()) with
                 | none => none
                 | some (y18, y19, _) => match edges21 ((o12, (o13, ())), ()) with
                  | none => none
                  | some (y20, _) => match classes20 (o12, y20, ()) with
                   | none => none
                   | some (y21, y22, _) => match trees21 ((o12, (o13, ())), 0, ()) with
                    | none => none
                    | some (y23, _) => match classes20 (o12, y23, ()) with
                     | none => none
                     | some (y24, y25, _) => match gjoined ((o10, (o11, ())), o9, ()) with
                      | none => none
                      | some (y26, y27, _) => match edges21 ((o10, (o11, ())), ()) with
                       | none => none
                       | some (y28, _) => match classes19 (o10, y28, ()) with
                        | none => none
                        | some (y29, _) => match edges21 ((o12, (o13, ())), ()) with
                         | none => none
                         | some (y30, _) => match classes19 (o12, y30, ()) with
                          | none => none
                          | some (y31, _) => match iterL growStays_s1 many (o10, o11, y15, y16, y18, y19, y21, y22, y24, y25, y26, y27, y29, y31, 0, 0, ()) with
                           | none => none
                           | some r => match r with
                            | .inl (o32, o33, o34, o35, o36, o37, o38, o39, o40, o41, o42, _) => match (ieq o33 0) with
                             | true => match (ieq o35 0) with
                              | true => match (ieq o37 0) with
                               | true => match (ieq o39 0) with
                                | true => match (ieq o41 0) with
                                 | true => match (ieq o40 o42) with
                                  | true => match ints01 (o32, o34, ()) with
                                   | none => none
                                   | some (y43, _) => match (!y43) with
                                    | true => some (true, ())
                                    | false => match ints01 (o36, o38, ()) with
                                     | none => none
                                     | some (y44, _) => some (y44, ())
                                  | false => some (false, ())
                                 | false => some (false, ())
                                | false => some (false, ())
                               | false => some (false, ())
                              | false => some (false, ())
                             | false => some (false, ())
                            | .inr _ => none
             | .inr _ => none
     | false => none
def growStays [Lk] := fun v => Lk.f (growStays_d v)
theorem growStays_eq v : growStays v = growStays_d v := lock_eq _
-- archipelago/archipelagolaw22.GrowTrees
end
end Go.Pev
end
section

end
section
namespace Go.Pev.Pl
theorem wrap_in {n : Int} (h : -9223372036854775808 ≤ n ∧ n ≤ 9223372036854775807) : IntKind.wrap .i64 n = n := IntWalk.i64_in n h
theorem iter_rule {σ ρ : Type} {step : σ → Option (σ ⊕ ρ)} (I : σ → Prop) (Q : ρ → Prop) (m : σ → Nat)
  (h : ∀ v, I v → (∃ v', step v = some (.inl v') ∧ I v' ∧ m v' < m v) ∨ (∃ r, step v = some (.inr r) ∧ Q r)) :
  ∀ n v, I v → m v < n → ∃ r, iterO step n v = some r ∧ Q r := by
 intro n
 induction n with
 | zero => intro v _ hn; omega
 | succ n ih =>
  intro v hv hn
  rcases h v hv with ⟨v', e, hi, hm⟩ | ⟨r, e, hq⟩
  ·rw [iterO, e]
   exact ih v' hi (by omega)
  ·rw [iterO, e]
   exact ⟨r, rfl, hq⟩
theorem iterL_rule {σ ρ : Type} {step : σ → Option (σ ⊕ ρ)} (I : σ → Prop) (Q : ρ → Prop) (m : σ → Nat)
  (h : ∀ v, I v → (∃ v', step v = some (.inl v') ∧ I v' ∧ m v' < m v) ∨ (∃ r, step v = some (.inr r) ∧ Q r))
  (v : σ) (hi : I v) (hm : m v < many) : ∃ r, iterL step many v = some r ∧ Q r := by
 rw [iterL_eq]
 exact iter_rule I Q m h many v hi hm
section
set_option linter.unusedSectionVars false
variable {α : Type} [Inhabited α]
theorem idx_at {d : Array α} {n : Nat} (h : n < d.size) : idx d.toList (n : Int) = some d[n]! := by
 rw [idx_eq, idxR, if_neg (by omega)]
 simp [h]
theorem dget_at {d : Array α} {n : Nat} {z : α} (h : n < d.size) : dget d.toList (dnat (n : Int)) z = d[n]! := by
 simp [dget, dnat, h]
theorem dset_at {d : Array α} {n : Nat} {x : α} : dset d.toList (dnat (n : Int)) x = (d.setIfInBounds n x).toList := by
 simp [dset, dnat]
theorem dlen_at {d : Array α} : dlen d.toList = (d.size : Int) := by simp [dlen]
theorem swp_fold (d : Array α) (i j : Nat) : (d.setIfInBounds i d[j]!).setIfInBounds j d[i]! = Go.Sort.swp d i j := rfl
theorem size_swp (d : Array α) (i j : Nat) : (Go.Sort.swp d i j).size = d.size := by simp [Go.Sort.swp]
end
theorem ilt_nat (a b : Nat) : ilt (a : Int) (b : Int) = decide (a < b) := by rw [ilt_eq]; simp
theorem ile_nat (a b : Nat) : ile (a : Int) (b : Int) = decide (a ≤ b) := by rw [ile_eq]; simp
theorem ieq_nat (a b : Nat) : ieq (a : Int) (b : Int) = decide (a = b) := by
 rw [ieq_eq]
 by_cases h : a = b
 ·simp [h]
 ·simp [h]; omega
section
theorem wrap_add {a b : Nat} (h : a + b < 9223372036854775808) : IntKind.wrap .i64 ((a : Int) + (b : Int)) = ((a + b : Nat) : Int) := by rw [wrap_in (by omega)]; omega
theorem wrap_add1 {a : Nat} (h : a + 1 < 9223372036854775808) : IntKind.wrap .i64 ((a : Int) + 1) = ((a + 1 : Nat) : Int) := by rw [wrap_in (by omega)]; omega
theorem wrap_2mul {a : Nat} (h : 2 * a < 9223372036854775808) : IntKind.wrap .i64 ((2 : Int) * (a : Int)) = ((2 * a : Nat) : Int) := by rw [wrap_in (by omega)]; omega
theorem wrap_mul1 {a : Nat} (h : a < 9223372036854775808) : IntKind.wrap .i64 ((a : Int) * 1) = ((a * 1 : Nat) : Int) := by rw [wrap_in (by omega)]; omega
theorem wrap_mul2 {a : Nat} (h : a * 2 < 9223372036854775808) : IntKind.wrap .i64 ((a : Int) * 2) = ((a * 2 : Nat) : Int) := by rw [wrap_in (by omega)]; omega
theorem wrap_mul3 {a : Nat} (h : a * 3 < 9223372036854775808) : IntKind.wrap .i64 ((a : Int) * 3) = ((a * 3 : Nat) : Int) := by rw [wrap_in (by omega)]; omega
theorem wrap_sub {a b : Nat} (h : b ≤ a ∧ a < 9223372036854775808) : IntKind.wrap .i64 ((a : Int) - (b : Int)) = ((a - b : Nat) : Int) := by rw [wrap_in (by omega)]; omega
theorem wrap_sub1 {a : Nat} (h : 1 ≤ a ∧ a < 9223372036854775808) : IntKind.wrap .i64 ((a : Int) - 1) = ((a - 1 : Nat) : Int) := by rw [wrap_in (by omega)]; omega
theorem quo_2 {a : Nat} (h : a < 9223372036854775808) : quo? .i64 (a : Int) 2 = some ((a / 2 : Nat) : Int) := by
 rw [quo_eq, quoR, if_neg (by omega), Int.tdiv_eq_ediv_of_nonneg (by omega), wrap_in (by omega)]; rfl
theorem quo_4 {a : Nat} (h : a < 9223372036854775808) : quo? .i64 (a : Int) 4 = some ((a / 4 : Nat) : Int) := by
 rw [quo_eq, quoR, if_neg (by omega), Int.tdiv_eq_ediv_of_nonneg (by omega), wrap_in (by omega)]; rfl
theorem quo_8 {a : Nat} (h : a < 9223372036854775808) : quo? .i64 (a : Int) 8 = some ((a / 8 : Nat) : Int) := by
 rw [quo_eq, quoR, if_neg (by omega), Int.tdiv_eq_ediv_of_nonneg (by omega), wrap_in (by omega)]; rfl
end
end Go.Pev.Pl
end
section
namespace Go.Pev.Pl
section
variable {α : Type}
theorem idx_l {xs : List α} {n : Nat} (z : α) (h : n < xs.length) : idx xs (n : Int) = some (xs.getD n z) := by
 rw [idx_eq, idxR, if_neg (by omega)]
 simp [h]
theorem idx_get (xs : List α) (n : Nat) : idx xs (n : Int) = xs[n]? := by
 rw [idx_eq, idxR, if_neg (by omega)]
 simp
theorem idx_zero (xs : List α) : idx xs (0 : Int) = xs.head? := by
 rw [idx_eq, idxR, if_neg (by omega)]
 cases xs <;> rfl
theorem dget_l (xs : List α) (n : Nat) (z : α) : dget xs (dnat (n : Int)) z = xs.getD n z := by simp [dget, dnat]
theorem dset_l (xs : List α) (n : Nat) (x : α) : dset xs (dnat (n : Int)) x = xs.set n x := by simp [dset, dnat]
theorem dlen_l (xs : List α) : dlen xs = (xs.length : Int) := rfl
theorem dnat_l (n : Nat) : dnat (n : Int) = n := by simp [dnat]
theorem dapp_l (xs ys : List α) : dapp xs ys = xs ++ ys := rfl
theorem subl_l {xs : List α} {l h : Nat} (h1 : l ≤ h) (h2 : h ≤ xs.length) : subl xs (l : Int) (h : Int) = some ((xs.take h).drop l) := by
 rw [subl_eq, sublR, if_pos (by omega)]
 simp
end
theorem fits_l {n : Int} (h : n ≤ 4294967296) : fits n = true := (fits_iff n).2 h
theorem cloneF_val {α : Type} {xs : List α} (h : xs.length ≤ 4294967296) : cloneF xs = some xs := by
 rw [cloneF_eq, cloneR, (fitsR_iff _).2 (by rw [dlen_l]; omega)]
theorem ieq_dlen {α β : Type} (xs : List α) (ys : List β) : ieq (dlen xs) (dlen ys) = decide (xs.length = ys.length) := by rw [dlen_l, dlen_l, ieq_nat]
theorem ieq_dec (a b : Int) : ieq a b = decide (a = b) := by
 rw [ieq_eq]
 by_cases h : a = b <;> simp [h]
def walk {α β ρ : Type} (f : β → α → α ⊕ ρ) (fin : α → ρ) : List β → α → ρ
 | [], a => fin a
 | x :: xs, a => match f x a with
  | .inl a => walk f fin xs a
  | .inr r => r
theorem walk_rule {σ ρ α β : Type} {step : σ → Option (σ ⊕ ρ)} (st : Nat → α → σ) (xs : List β) (f : β → α → α ⊕ ρ) (fin : α → ρ) (I : Nat → α → Prop)
  (h : ∀ i x a, i < xs.length → xs[i]? = some x → I i a → (∀ a', f x a = .inl a' → step (st i a) = some (.inl (st (i + 1) a')) ∧ I (i + 1) a') ∧ (∀ r, f x a = .inr r → step (st i a) = some (.inr r)))
  (hN : ∀ a, I xs.length a → step (st xs.length a) = some (.inr (fin a))) :
  ∀ (m i n : Nat) (a : α), xs.length - i = m → i ≤ xs.length → m < n → I i a → iterO step n (st i a) = some (walk f fin (xs.drop i) a) := by
 intro m
 induction m with
 | zero =>
  intro i n a hk hi hn hI
  obtain ⟨n, rfl⟩ : ∃ k, n = k + 1 := ⟨n - 1, by omega⟩
  have e : i = xs.length := by omega
  subst e
  rw [iterO, hN a hI, List.drop_length]
  rfl
 | succ m ih =>
  intro i n a hk hi hn hI
  obtain ⟨n, rfl⟩ : ∃ k, n = k + 1 := ⟨n - 1, by omega⟩
  have hi' : i < xs.length := by omega
  obtain ⟨g1, g2⟩ := h i xs[i] a hi' (by simp [hi']) hI
  rw [List.drop_eq_getElem_cons hi', walk, iterO]
  cases hf : f xs[i] a with
  | inl a' =>
   obtain ⟨e, hI'⟩ := g1 a' hf
   rw [e]
   exact ih (i + 1) n a' (by omega) (by omega) (by omega) hI'
  | inr r => rw [g2 r hf]
theorem walkL {σ ρ α β : Type} {step : σ → Option (σ ⊕ ρ)} (st : Nat → α → σ) (xs : List β) (f : β → α → α ⊕ ρ) (fin : α → ρ) (I : Nat → α → Prop) (hs : xs.length < 9223372036854775808)
  (h : ∀ i x a, i < xs.length → xs[i]? = some x → I i a → (∀ a', f x a = .inl a' → step (st i a) = some (.inl (st (i + 1) a')) ∧ I (i + 1) a') ∧ (∀ r, f x a = .inr r → step (st i a) = some (.inr r)))
  (hN : ∀ a, I xs.length a → step (st xs.length a) = some (.inr (fin a))) (a : α) (h0 : I 0 a) : iterL step many (st 0 a) = some (walk f fin xs a) := by
 have hm : 9223372036854775808 < many := by simp only [many]; omega
 rw [iterL_eq, walk_rule st xs f fin I h hN xs.length 0 many a (by omega) (by omega) (by omega) h0]
 rfl
theorem eq_of_places {α : Type} {xs ys : List α} (z : α) (hl : xs.length = ys.length) (h : ∀ j, j < xs.length → xs.getD j z = ys.getD j z) : xs = ys := by
 apply List.ext_getElem hl
 intro i h1 h2
 have := h i h1
 simpa [h1, h2] using this
theorem ne_of_place {α : Type} {xs ys : List α} (z : α) {j : Nat} (h : xs.getD j z ≠ ys.getD j z) : xs ≠ ys := fun e => h (by rw [e])
theorem scan_rule {σ ρ : Type} {step : σ → Option (σ ⊕ ρ)} (st : Nat → σ) (N : Nat) (P : Nat → Bool) (rt : Nat → ρ) (rf : ρ)
  (h : ∀ i, i < N → step (st i) = if P i then some (.inr (rt i)) else some (.inl (st (i + 1)))) (hN : step (st N) = some (.inr rf)) :
  ∀ (m i n : Nat), N - i = m → i ≤ N → m < n → (∃ k, i ≤ k ∧ k < N ∧ P k = true ∧ (∀ j, i ≤ j → j < k → P j = false) ∧ iterO step n (st i) = some (rt k)) ∨ ((∀ j, i ≤ j → j < N → P j = false) ∧ iterO step n (st i) = some rf) := by
 intro m
 induction m with
 | zero =>
  intro i n hk hi hn
  obtain ⟨n, rfl⟩ : ∃ k, n = k + 1 := ⟨n - 1, by omega⟩
  have e : i = N := by omega
  subst e
  exact .inr ⟨fun j h1 h2 => by omega, by rw [iterO, hN]⟩
 | succ m ih =>
  intro i n hk hi hn
  obtain ⟨n, rfl⟩ : ∃ k, n = k + 1 := ⟨n - 1, by omega⟩
  have hi' : i < N := by omega
  cases hP : P i
  ·have e : iterO step (n + 1) (st i) = iterO step n (st (i + 1)) := by rw [iterO, h i hi', hP]; rfl
   rw [e]
   rcases ih (i + 1) n (by omega) (by omega) (by omega) with ⟨k, h1, h2, h3, h4, h5⟩ | ⟨h1, h2⟩
   ·refine .inl ⟨k, by omega, h2, h3, fun j a1 a2 => ?_, h5⟩
    by_cases ej : j = i
    ·subst ej; exact hP
    ·exact h4 j (by omega) a2
   ·refine .inr ⟨fun j a1 a2 => ?_, h2⟩
    by_cases ej : j = i
    ·subst ej; exact hP
    ·exact h1 j (by omega) a2
  ·exact .inl ⟨i, Nat.le_refl _, hi', hP, fun j a1 a2 => by omega, by rw [iterO, h i hi', hP]; rfl⟩
theorem scanL {σ ρ : Type} {step : σ → Option (σ ⊕ ρ)} (st : Nat → σ) (N : Nat) (P : Nat → Bool) (rt : Nat → ρ) (rf : ρ) (hs : N < 9223372036854775808)
  (h : ∀ i, i < N → step (st i) = if P i then some (.inr (rt i)) else some (.inl (st (i + 1)))) (hN : step (st N) = some (.inr rf)) :
  (∃ k, k < N ∧ P k = true ∧ (∀ j, j < k → P j = false) ∧ iterL step many (st 0) = some (rt k)) ∨ ((∀ j, j < N → P j = false) ∧ iterL step many (st 0) = some rf) := by
 have hm : 9223372036854775808 < many := by simp only [many]; omega
 rw [iterL_eq]
 rcases scan_rule st N P rt rf h hN N 0 many rfl (by omega) (by omega) with ⟨k, h1, h2, h3, h4, h5⟩ | ⟨h1, h2⟩
 ·exact .inl ⟨k, h2, h3, fun j a => h4 j (by omega) a, h5⟩
 ·exact .inr ⟨fun j a => h1 j (by omega) a, h2⟩
end Go.Pev.Pl
end
