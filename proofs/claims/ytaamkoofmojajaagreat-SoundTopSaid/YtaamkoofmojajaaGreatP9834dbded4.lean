/- A part of the proofs of this seat: G24M1 G24M2 G24M3 G24M4 G24M5 G24M Pln PlnB T18a T18b T18c PlnM. -/
import Derived.Test.YtaamkoofmojajaaGreatP4a7b68f0f9
import Derived.IntWalk
import Derived.Sort.AssemblyPlain
set_option linter.unusedVariables false
set_option linter.unusedSimpArgs false
set_option linter.unusedSectionVars false
section
namespace Go.Pev
set_option maxRecDepth 100000
noncomputable section
attribute [local irreducible] fitsR fitsIR idxR sublR iltR ileR ieqR quoR remR shlR shrR cloneR iterO many IntKind.wrap dlen dset dget dapp dtake dcut drep dnat dclear imin imax lookupM storeM
-- archipelago/archipelagoref01.Ints
-- archipelago/tour.sized
abbrev tsized_i : Items := [(.tmp 0, .di)]
abbrev tsized_o : Items := [(.tmp 0, .dat .bool)]
abbrev tsized_r : List RS := [.one]
def tsized_d [Lk] : (Int × Unit) → Option ((Bool × Unit)) := fun (a0, _) =>
 match (ile 1 a0) with
 | true => some ((ile a0 64), ())
 | false => some (false, ())
def tsized [Lk] := fun v => Lk.f (tsized_d v)
theorem tsized_eq v : tsized v = tsized_d v := lock_eq _
-- archipelago/tour.in
abbrev tin_i : Items := [(.tmp 0, .di), (.tmp 1, .di)]
abbrev tin_o : Items := [(.tmp 0, .dat .bool)]
abbrev tin_r : List RS := [.one]
def tin_d [Lk] : (Int × Int × Unit) → Option ((Bool × Unit)) := fun (a0, a1, _) =>
 match tsized (a0, ()) with
 | none => none
 | some (y0, _) => match y0 with
  | true => match (ile 0 a1) with
   | true => some ((ilt a1 a0), ())
   | false => some (false, ())
  | false => some (false, ())
def tin [Lk] := fun v => Lk.f (tin_d v)
theorem tin_eq v : tin v = tin_d v := lock_eq _
-- archipelago/tour.Arc
abbrev tarc_i : Items := [(.tmp 0, .di), (.tmp 1, .di), (.tmp 2, .di)]
abbrev tarc_o : Items := [(.tmp 0, .di)]
abbrev tarc_r : List RS := [.one]
def tarc_d [Lk] : (Int × Int × Int × Unit) → Option ((Int × Unit)) := fun (a0, a1, a2, _) =>
 match (ieq a1 a2) with
 | true => some ((-1 : Int), ())
 | false => match tin (a0, a1, ()) with
  | none => none
  | some (y0, _) => match (!y0) with
   | true => some ((-1 : Int), ())
   | false => match tin (a0, a2, ()) with
    | none => none
    | some (y1, _) => match (!y1) with
     | true => some ((-1 : Int), ())
     | false => some ((IntKind.wrap .i64 ((IntKind.wrap .i64 (a0 * (IntKind.wrap .i64 (a1 + 1)))) + a2)), ())
def tarc [Lk] := fun v => Lk.f (tarc_d v)
theorem tarc_eq v : tarc v = tarc_d v := lock_eq _
-- archipelago/tour.Token
abbrev ttoken_i : Items := [(.tmp 0, .di), (.tmp 1, .di)]
abbrev ttoken_o : Items := [(.tmp 0, .di), (.tmp 1, .di), (.tmp 2, .dat .bool), (.tmp 3, .dat .bool)]
abbrev ttoken_r : List RS := [.one, .one, .one, .one]
def ttoken_d [Lk] : (Int × Int × Unit) → Option ((Int × Int × Bool × Bool × Unit)) := fun (a0, a1, _) =>
 match tsized (a0, ()) with
 | none => none
 | some (y0, _) => match (!y0) with
  | true => some (0, 0, false, false, ())
  | false => match (ilt a1 0) with
   | true => some (0, 0, false, false, ())
   | false => match (ile (IntKind.wrap .i64 (a0 * (IntKind.wrap .i64 (a0 + 1)))) a1) with
    | true => some (0, 0, false, false, ())
    | false => match (ilt a1 a0) with
     | true => some (a1, 0, false, true, ())
     | false => match quo? .i64 a1 a0 with
      | none => none
      | some x1 => match rem? a1 a0 with
       | none => none
       | some x2 => match (ieq (IntKind.wrap .i64 (x1 - 1)) x2) with
        | true => some (0, 0, false, false, ())
        | false => some ((IntKind.wrap .i64 (x1 - 1)), x2, true, true, ())
def ttoken [Lk] := fun v => Lk.f (ttoken_d v)
theorem ttoken_eq v : ttoken v = ttoken_d v := lock_eq _
-- archipelago/tour.Make
abbrev tmake_i : Items := [(.tmp 0, .di)]
abbrev tmake_o : Items := [(.tmp 0, .di), (.tmp 1, .own 55 (.slice (.int .i64))), (.tmp 2, .di)]
abbrev tmake_r : List RS := [.agg 2, .one]
abbrev tmake_i0 : Items := [(.tmp 2, .box 2), (.cell 0 0, .di), (.cell 0 1, .nil (.slice (.int .i64))), (.tmp 4, .box 2), (.cell 1 0, .di), (.cell 1 1, .own 55 (.slice (.int .i64))), (.tmp 12, .di), (.tmp 13, .di)]
abbrev tmake_o0 : Outs := [(.exit 0, [(.tmp 2, .box 2), (.cell 0 0, .di), (.cell 0 1, .nil (.slice (.int .i64))), (.tmp 4, .box 2), (.cell 1 0, .di), (.cell 1 1, .own 55 (.slice (.int .i64)))])]
def tmake_s0 [Lk] : (Int × Int × List (List Int) × Int × Int × Unit) → Option ((Int × Int × List (List Int) × Int × Int × Unit) ⊕ (Int × Int × List (List Int) × Unit) ⊕ Unit) := fun (a0, a1, a2, a3, a4, _) =>
 match (ilt a4 a3) with
 | true => match (fits ((dlen a2) + (dlen ([([a4] : List (Int))] : List (List Int))))) with
  | true => some (.inl (a0, a1, (dapp a2 ([([a4] : List (Int))] : List (List Int))), a3, (IntKind.wrap .i64 (a4 + 1)), ()))
  | false => none
 | false => some (.inr (.inl (a0, a1, a2, ())))
def tmake_d [Lk] : (Int × Unit) → Option ((Int × List (List Int) × Int × Unit)) := fun (a0, _) =>
 match tsized (a0, ()) with
 | none => none
 | some (y0, _) => match (!y0) with
  | true => some (0, ([] : List (List Int)), 1, ())
  | false => match iterL tmake_s0 many (0, a0, ([] : List (List Int)), a0, 0, ()) with
   | none => none
   | some r => match r with
    | .inl (o1, o2, o3, _) => some (o2, o3, 0, ())
    | .inr _ => none
def tmake [Lk] := fun v => Lk.f (tmake_d v)
theorem tmake_eq v : tmake v = tmake_d v := lock_eq _
-- slices.Index[[]int,int]
abbrev indexI_i : Items := [(.tmp 0, .dat (.slice (.int .i64))), (.tmp 1, .di)]
abbrev indexI_o : Items := [(.tmp 0, .di)]
abbrev indexI_r : List RS := [.one]
abbrev indexI_i0 : Items := [(.tmp 0, .dat (.slice (.int .i64))), (.tmp 1, .di), (.tmp 7, .di), (.tmp 8, .di)]
abbrev indexI_o0 : Outs := [(.ret, [(.tmp 4, .di)]), (.exit 0, [])]
def indexI_s0 [Lk] : (List Int × Int × Int × Int × Unit) → Option ((List Int × Int × Int × Int × Unit) ⊕ (Int × Unit) ⊕ (Unit) ⊕ Unit) := fun (a0, a1, a2, a3, _) =>
 match (ilt a3 a2) with
 | true => match idx a0 a3 with
  | none => none
  | some x0 => match (ieq a1 x0) with
   | true => some (.inr (.inl (a3, ())))
   | false => some (.inl (a0, a1, a2, (IntKind.wrap .i64 (a3 + 1)), ()))
 | false => some (.inr (.inr (.inl ())))
def indexI_d [Lk] : (List Int × Int × Unit) → Option ((Int × Unit)) := fun (a0, a1, _) =>
 match iterL indexI_s0 many (a0, a1, (dlen a0), 0, ()) with
 | none => none
 | some r => match r with
  | .inl (o0, _) => some (o0, ())
  | .inr r => match r with
   | .inl _ => some ((-1 : Int), ())
   | .inr _ => none
def indexI [Lk] := fun v => Lk.f (indexI_d v)
theorem indexI_eq v : indexI v = indexI_d v := lock_eq _
-- slices.Contains[[]int,int]
abbrev containsI_i : Items := [(.tmp 0, .dat (.slice (.int .i64))), (.tmp 1, .di)]
abbrev containsI_o : Items := [(.tmp 0, .dat .bool)]
abbrev containsI_r : List RS := [.one]
def containsI_d [Lk] : (List Int × Int × Unit) → Option ((Bool × Unit)) := fun (a0, a1, _) =>
 match indexI (a0, a1, ()) with
 | none => none
 | some (y0, _) => some ((ile 0 y0), ())
def containsI [Lk] := fun v => Lk.f (containsI_d v)
theorem containsI_eq v : containsI v = containsI_d v := lock_eq _
-- slices.Min[[]int,int]
abbrev minI_i : Items := [(.tmp 0, .dat (.slice (.int .i64)))]
abbrev minI_o : Items := [(.tmp 0, .di)]
abbrev minI_r : List RS := [.one]
abbrev minI_i0 : Items := [(.tmp 0, .dat (.slice (.int .i64))), (.tmp 3, .di), (.tmp 4, .di)]
abbrev minI_o0 : Outs := [(.exit 0, [(.tmp 3, .di)])]
def minI_s0 [Lk] : (List Int × Int × Int × Unit) → Option ((List Int × Int × Int × Unit) ⊕ (Int × Unit) ⊕ Unit) := fun (a0, a1, a2, _) =>
 match (ilt a2 (dlen a0)) with
 | true => match idx a0 a2 with
  | none => none
  | some x0 => some (.inl (a0, (imin a1 x0), (IntKind.wrap .i64 (a2 + 1)), ()))
 | false => some (.inr (.inl (a1, ())))
def minI_d [Lk] : (List Int × Unit) → Option ((Int × Unit)) := fun (a0, _) =>
 match (ilt (dlen a0) 1) with
 | true => none
 | false => match idx a0 0 with
  | none => none
  | some x0 => match iterL minI_s0 many (a0, x0, 1, ()) with
   | none => none
   | some r => match r with
    | .inl (o1, _) => some (o1, ())
    | .inr _ => none
def minI [Lk] := fun v => Lk.f (minI_d v)
theorem minI_eq v : minI v = minI_d v := lock_eq _
-- slices.Grow[[]int,int]
abbrev growI_i : Items := [(.tmp 0, .nil (.int .i64)), (.tmp 1, .di)]
abbrev growI_o : Items := [(.tmp 0, .own 3 (.int .i64))]
abbrev growI_r : List RS := [.one]
def growI_d [Lk] : (Int × Unit) → Option ((List Int × Unit)) := fun (a0, _) =>
 match (ilt a0 0) with
 | true => none
 | false => match (ilt 0 (IntKind.wrap .i64 (a0 - (IntKind.wrap .i64 (0 - 0))))) with
  | true => match subl ([] : List Unit) 0 0 with
   | none => none
   | some _u0 => match (fitsI (IntKind.wrap .i64 (a0 - (IntKind.wrap .i64 (0 - 0))))) with
    | true => match subl (drep (dnat (IntKind.wrap .i64 (a0 - (IntKind.wrap .i64 ((0 : Int) - (0 : Int)))))) (0 : Int)) (0 : Int) (0 : Int) with
     | none => none
     | some x1 => some ((dtake (dnat (dlen x1)) (drep (dnat (IntKind.wrap .i64 (a0 - (IntKind.wrap .i64 ((0 : Int) - (0 : Int)))))) (0 : Int))), ())
    | false => none
  | false => some (([] : List (Int)), ())
def growI [Lk] := fun v => Lk.f (growI_d v)
theorem growI_eq v : growI v = growI_d v := lock_eq _
-- slices.Concat[[]int,int]
abbrev concatI_i : Items := [(.tmp 0, .dat (.slice (.slice (.int .i64))))]
abbrev concatI_o : Items := [(.tmp 0, .own 3 (.int .i64))]
abbrev concatI_r : List RS := [.one]
abbrev concatI_i1 : Items := [(.tmp 6, .own 3 (.int .i64)), (.tmp 25, .dat (.slice (.slice (.int .i64)))), (.tmp 26, .di), (.tmp 27, .di)]
abbrev concatI_o1 : Outs := [(.exit 2, [(.tmp 6, .own 3 (.int .i64))])]
def concatI_s1 [Lk] : (List Int × List (List Int) × Int × Int × Unit) → Option ((List Int × List (List Int) × Int × Int × Unit) ⊕ (List Int × Unit) ⊕ Unit) := fun (a0, a1, a2, a3, _) =>
 match (ilt a3 a2) with
 | true => match idx a1 a3 with
  | none => none
  | some x0 => match (fits ((dlen a0) + (dlen x0))) with
   | true => some (.inl ((dapp a0 x0), a1, a2, (IntKind.wrap .i64 (a3 + 1)), ()))
   | false => none
 | false => some (.inr (.inl (a0, ())))
abbrev concatI_i0 : Items := [(.tmp 0, .dat (.slice (.slice (.int .i64)))), (.tmp 3, .di), (.tmp 9, .dat (.slice (.slice (.int .i64)))), (.tmp 10, .di), (.tmp 11, .di)]
abbrev concatI_o0 : Outs := [(.exit 0, [(.tmp 0, .dat (.slice (.slice (.int .i64)))), (.tmp 3, .di)])]
def concatI_s0 [Lk] : (List (List Int) × Int × List (List Int) × Int × Int × Unit) → Option ((List (List Int) × Int × List (List Int) × Int × Int × Unit) ⊕ (List (List Int) × Int × Unit) ⊕ Unit) := fun (a0, a1, a2, a3, a4, _) =>
 match (ilt a4 a3) with
 | true => match idx a2 a4 with
  | none => none
  | some x0 => match (ilt (IntKind.wrap .i64 (a1 + (dlen x0))) 0) with
   | true => none
   | false => some (.inl (a0, (IntKind.wrap .i64 (a1 + (dlen x0))), a2, a3, (IntKind.wrap .i64 (a4 + 1)), ()))
 | false => some (.inr (.inl (a0, a1, ())))
def concatI_d [Lk] : (List (List Int) × Unit) → Option ((List Int × Unit)) := fun (a0, _) =>
 match iterL concatI_s0 many (a0, 0, a0, (dlen a0), 0, ()) with
 | none => none
 | some r => match r with
  | .inl (o0, o1, _) => match growI (o1, ()) with
   | none => none
   | some (y2, _) => match iterL concatI_s1 many (y2, o0, (dlen o0), 0, ()) with
    | none => none
    | some r => match r with
     | .inl (o3, _) => some (o3, ())
     | .inr _ => none
  | .inr _ => none
def concatI [Lk] := fun v => Lk.f (concatI_d v)
theorem concatI_eq v : concatI v = concatI_d v := lock_eq _
-- slices.IndexFunc[[]int,int]
abbrev idxFuncI_odd_i : Items := [(.tmp 0, .dat (.slice (.int .i64))), (.tmp 1, .clo 195 [])]
abbrev idxFuncI_odd_o : Items := [(.tmp 0, .di)]
abbrev idxFuncI_odd_r : List RS := [.one]
abbrev idxFuncI_odd_i0 : Items := [(.tmp 0, .dat (.slice (.int .i64))), (.tmp 1, .clo 195 []), (.tmp 7, .di), (.tmp 8, .di)]
abbrev idxFuncI_odd_o0 : Outs := [(.ret, [(.tmp 4, .di)]), (.exit 0, [])]
def idxFuncI_odd_s0 [Lk] : (List Int × Int × Int × Unit) → Option ((List Int × Int × Int × Unit) ⊕ (Int × Unit) ⊕ (Unit) ⊕ Unit) := fun (a0, a1, a2, _) =>
 match (ilt a2 a1) with
 | true => match idx a0 a2 with
  | none => none
  | some x0 => match (ilt x0 0) with
   | true => some (.inr (.inl (a2, ())))
   | false => match (ilt 10000 x0) with
    | true => some (.inr (.inl (a2, ())))
    | false => some (.inl (a0, a1, (IntKind.wrap .i64 (a2 + 1)), ()))
 | false => some (.inr (.inr (.inl ())))
def idxFuncI_odd_d [Lk] : (List Int × Unit) → Option ((Int × Unit)) := fun (a0, _) =>
 match iterL idxFuncI_odd_s0 many (a0, (dlen a0), 0, ()) with
 | none => none
 | some r => match r with
  | .inl (o0, _) => some (o0, ())
  | .inr r => match r with
   | .inl _ => some ((-1 : Int), ())
   | .inr _ => none
def idxFuncI_odd [Lk] := fun v => Lk.f (idxFuncI_odd_d v)
theorem idxFuncI_odd_eq v : idxFuncI_odd v = idxFuncI_odd_d v := lock_eq _
-- slices.ContainsFunc[[]int,int]
abbrev contFuncI_odd_i : Items := [(.tmp 0, .dat (.slice (.int .i64))), (.tmp 1, .clo 195 [])]
abbrev contFuncI_odd_o : Items := [(.tmp 0, .dat .bool)]
abbrev contFuncI_odd_r : List RS := [.one]
def contFuncI_odd_d [Lk] : (List Int × Unit) → Option ((Bool × Unit)) := fun (a0, _) =>
 match idxFuncI_odd (a0, ()) with
 | none => none
 | some (y0, _) => some ((ile 0 y0), ())
def contFuncI_odd [Lk] := fun v => Lk.f (contFuncI_odd_d v)
theorem contFuncI_odd_eq v : contFuncI_odd v = contFuncI_odd_d v := lock_eq _
-- archipelago/ring.once[int]
abbrev once_i : Items := [(.tmp 0, .dat (.slice (.int .i64)))]
abbrev once_o : Items := [(.tmp 0, .dat .bool)]
abbrev once_r : List RS := [.one]
abbrev once_i0 : Items := [(.tmp 0, .dat (.slice (.int .i64))), (.tmp 3, .map (.int .i64) (.int .i64)), (.tmp 7, .dat (.slice (.int .i64))), (.tmp 8, .di), (.tmp 9, .di)]
abbrev once_o0 : Outs := [(.exit 0, [(.tmp 0, .dat (.slice (.int .i64))), (.tmp 3, .map (.int .i64) (.int .i64))])]
def once_s0 [Lk] : (List Int × List (Int × Int) × List Int × Int × Int × Unit) → Option ((List Int × List (Int × Int) × List Int × Int × Int × Unit) ⊕ (List Int × List (Int × Int) × Unit) ⊕ Unit) := fun (a0, a1, a2, a3, a4, _) =>
 match (ilt a4 a3) with
 | true => match idx a2 a4 with
  | none => none
  | some x0 => some (.inl (a0, (storeM a1 x0 (IntKind.wrap .i64 (((lookupM a1 x0).getD 0) + 1))), a2, a3, (IntKind.wrap .i64 (a4 + 1)), ()))
 | false => some (.inr (.inl (a0, a1, ())))
def once_d [Lk] : (List Int × Unit) → Option ((Bool × Unit)) := fun (a0, _) =>
 match iterL once_s0 many (a0, ([] : List (Int × Int)), a0, (dlen a0), 0, ()) with
 | none => none
 | some r => match r with
  | .inl (o0, o1, _) => some ((ieq (dlen o1) (dlen o0)), ())
  | .inr _ => none
def once [Lk] := fun v => Lk.f (once_d v)
theorem once_eq v : once v = once_d v := lock_eq _
-- archipelago/ring.Right
abbrev rright_i : Items := [(.tmp 0, .dat (.slice (.int .i64)))]
abbrev rright_o : Items := [(.tmp 0, .dat .bool)]
abbrev rright_r : List RS := [.one]
def rright_d [Lk] : (List Int × Unit) → Option ((Bool × Unit)) := fun (a0, _) =>
 match (ilt 1000 (dlen a0)) with
 | true => some (false, ())
 | false => match contFuncI_odd (a0, ()) with
  | none => none
  | some (y0, _) => match (!y0) with
   | true => match once (a0, ()) with
    | none => none
    | some (y1, _) => some (y1, ())
   | false => some (false, ())
def rright [Lk] := fun v => Lk.f (rright_d v)
theorem rright_eq v : rright v = rright_d v := lock_eq _
-- archipelago/ring.turned
abbrev turned_i : Items := [(.tmp 0, .dat (.slice (.int .i64))), (.tmp 1, .di)]
abbrev turned_o : Items := [(.tmp 0, .own 3 (.int .i64))]
abbrev turned_r : List RS := [.one]
def turned_d [Lk] : (List Int × Int × Unit) → Option ((List Int × Unit)) := fun (a0, a1, _) =>
 match subl a0 a1 (dlen a0) with
 | none => none
 | some x0 => match subl a0 0 a1 with
  | none => none
  | some x1 => match concatI (([x0, x1] : List (List Int)), ()) with
   | none => none
   | some (y2, _) => some (y2, ())
def turned [Lk] := fun v => Lk.f (turned_d v)
theorem turned_eq v : turned v = turned_d v := lock_eq _
-- archipelago/ring.places
abbrev places_i : Items := [(.tmp 0, .dat (.slice (.int .i64))), (.tmp 1, .dat (.slice (.int .i64)))]
abbrev places_o : Items := [(.tmp 0, .own 3 (.int .i64)), (.tmp 1, .dat .bool)]
abbrev places_r : List RS := [.one, .one]
abbrev places_i0 : Items := [(.tmp 0, .dat (.slice (.int .i64))), (.tmp 6, .own 3 (.int .i64)), (.tmp 12, .dat (.slice (.int .i64))), (.tmp 13, .di), (.tmp 14, .di)]
abbrev places_o0 : Outs := [(.exit 0, [(.tmp 6, .own 3 (.int .i64))])]
def places_s0 [Lk] : (List Int × List Int × List Int × Int × Int × Unit) → Option ((List Int × List Int × List Int × Int × Int × Unit) ⊕ (List Int × Unit) ⊕ Unit) := fun (a0, a1, a2, a3, a4, _) =>
 match (ilt a4 a3) with
 | true => match idx a2 a4 with
  | none => none
  | some x0 => match indexI (a0, x0, ()) with
   | none => none
   | some (y1, _) => match (fits ((dlen a1) + (dlen ([y1] : List (Int))))) with
    | true => some (.inl (a0, (dapp a1 ([y1] : List (Int))), a2, a3, (IntKind.wrap .i64 (a4 + 1)), ()))
    | false => none
 | false => some (.inr (.inl (a1, ())))
def places_d [Lk] : (List Int × List Int × Unit) → Option ((List Int × Bool × Unit)) := fun (a0, a1, _) =>
 match rright (a0, ()) with
 | none => none
 | some (y0, _) => match (!y0) with
  | true => some (([] : List (Int)), false, ())
  | false => match iterL places_s0 many (a0, ([] : List (Int)), a1, (dlen a1), 0, ()) with
   | none => none
   | some r => match r with
    | .inl (o1, _) => match containsI (o1, (-1 : Int), ()) with
     | none => none
     | some (y2, _) => some (o1, (!y2), ())
    | .inr _ => none
def places [Lk] := fun v => Lk.f (places_d v)
theorem places_eq v : places v = places_d v := lock_eq _
-- archipelago/ring.From
abbrev rfrom_i : Items := [(.tmp 0, .dat (.slice (.int .i64))), (.tmp 1, .di)]
abbrev rfrom_o : Items := [(.tmp 0, .own 3 (.int .i64)), (.tmp 1, .dat .bool)]
abbrev rfrom_r : List RS := [.one, .one]
def rfrom_d [Lk] : (List Int × Int × Unit) → Option ((List Int × Bool × Unit)) := fun (a0, a1, _) =>
 match places (a0, ([a1] : List (Int)), ()) with
 | none => none
 | some (y0, y1, _) => match (!y1) with
  | true => some (([] : List (Int)), false, ())
  | false => match idx y0 0 with
   | none => none
   | some x2 => match turned (a0, (dget y0 0 0), ()) with
    | none => none
    | some (y3, _) => some (y3, true, ())
def rfrom [Lk] := fun v => Lk.f (rfrom_d v)
theorem rfrom_eq v : rfrom v = rfrom_d v := lock_eq _
-- archipelago/ring.Plain
abbrev rplain_i : Items := [(.tmp 0, .dat (.slice (.int .i64)))]
abbrev rplain_o : Items := [(.tmp 0, .own 3 (.int .i64))]
abbrev rplain_r : List RS := [.one]
def rplain_d [Lk] : (List Int × Unit) → Option ((List Int × Unit)) := fun (a0, _) =>
 match rright (a0, ()) with
 | none => none
 | some (y0, _) => match (!y0) with
  | true => some (([] : List (Int)), ())
  | false => match (ieq (dlen a0) 0) with
   | true => some (([] : List (Int)), ())
   | false => match minI (a0, ()) with
    | none => none
    | some (y1, _) => match indexI (a0, y1, ()) with
     | none => none
     | some (y2, _) => match turned (a0, y2, ()) with
      | none => none
      | some (y3, _) => some (y3, ())
def rplain [Lk] := fun v => Lk.f (rplain_d v)
theorem rplain_eq v : rplain v = rplain_d v := lock_eq _
-- slices.IndexFunc[[][]int,[]int]
abbrev idxFuncL_place_i : Items := [(.tmp 0, .dat (.slice (.slice (.int .i64)))), (.cap 1 0, .box 1), (.cell 0 0, .di), (.tmp 1, .clo 180 [(0, 0)])]
abbrev idxFuncL_place_o : Items := [(.obj 0, .box 1), (.cell 0 0, .di), (.tmp 0, .di)]
abbrev idxFuncL_place_r : List RS := [.one]
abbrev idxFuncL_place_i0 : Items := [(.obj 0, .box 1), (.cell 0 0, .di), (.tmp 0, .dat (.slice (.slice (.int .i64)))), (.tmp 1, .clo 180 [(0, 0)]), (.tmp 7, .di), (.tmp 8, .di)]
abbrev idxFuncL_place_o0 : Outs := [(.ret, [(.obj 0, .box 1), (.cell 0 0, .di), (.tmp 4, .di)]), (.exit 0, [(.obj 0, .box 1), (.cell 0 0, .di)])]
def idxFuncL_place_s0 [Lk] : (Int × List (List Int) × Int × Int × Unit) → Option ((Int × List (List Int) × Int × Int × Unit) ⊕ (Int × Int × Unit) ⊕ (Int × Unit) ⊕ Unit) := fun (a0, a1, a2, a3, _) =>
 match (ilt a3 a2) with
 | true => match idx a1 a3 with
  | none => none
  | some x0 => match containsI (x0, a0, ()) with
   | none => none
   | some (y1, _) => match y1 with
    | true => some (.inr (.inl (a0, a3, ())))
    | false => some (.inl (a0, a1, a2, (IntKind.wrap .i64 (a3 + 1)), ()))
 | false => some (.inr (.inr (.inl (a0, ()))))
def idxFuncL_place_d [Lk] : (List (List Int) × Int × Unit) → Option ((Int × Int × Unit)) := fun (a0, a1, _) =>
 match iterL idxFuncL_place_s0 many (a1, a0, (dlen a0), 0, ()) with
 | none => none
 | some r => match r with
  | .inl (o0, o1, _) => some (o0, o1, ())
  | .inr r => match r with
   | .inl (o2, _) => some (o2, (-1 : Int), ())
   | .inr _ => none
def idxFuncL_place [Lk] := fun v => Lk.f (idxFuncL_place_d v)
theorem idxFuncL_place_eq v : idxFuncL_place v = idxFuncL_place_d v := lock_eq _
-- archipelago/tour.place
abbrev tplace_i : Items := [(.tmp 0, .dat (.prod (.int .i64) (.prod (.slice (.slice (.int .i64))) .unit))), (.tmp 1, .di)]
abbrev tplace_o : Items := [(.tmp 0, .di)]
abbrev tplace_r : List RS := [.one]
def tplace_d [Lk] : ((Int × (List (List Int)) × Unit) × Int × Unit) → Option ((Int × Unit)) := fun (a0, a1, _) =>
 match idxFuncL_place (a0.2.1, a1, ()) with
 | none => none
 | some (y0, y1, _) => some (y1, ())
def tplace [Lk] := fun v => Lk.f (tplace_d v)
theorem tplace_eq v : tplace v = tplace_d v := lock_eq _
-- archipelago/tour.goes
abbrev goes_i : Items := [(.tmp 0, .di), (.tmp 1, .dat (.slice (.int .i64)))]
abbrev goes_o : Items := [(.tmp 0, .dat .bool)]
abbrev goes_r : List RS := [.one]
abbrev goes_i0 : Items := [(.tmp 0, .di), (.tmp 5, .box 3), (.cell 0 0, .own 3 (.int .i64)), (.cell 0 1, .map (.int .i64) (.int .i64)), (.cell 0 2, .map (.int .i64) (.int .i64)), (.tmp 30, .dat (.slice (.int .i64))), (.tmp 31, .di), (.tmp 32, .di)]
abbrev goes_o0 : Outs := [(.ret, [(.tmp 4, .dat .bool)]), (.exit 0, [(.tmp 5, .box 3), (.cell 0 0, .own 3 (.int .i64)), (.cell 0 1, .map (.int .i64) (.int .i64)), (.cell 0 2, .map (.int .i64) (.int .i64))])]
def goes_s0 [Lk] : (Int × List Int × List (Int × Int) × List (Int × Int) × List Int × Int × Int × Unit) → Option ((Int × List Int × List (Int × Int) × List (Int × Int) × List Int × Int × Int × Unit) ⊕ (Bool × Unit) ⊕ (List Int × List (Int × Int) × List (Int × Int) × Unit) ⊕ Unit) := fun (a0, a1, a2, a3, a4, a5, a6, _) =>
 match (ilt a6 a5) with
 | true => match idx a4 a6 with
  | none => none
  | some x0 => match ttoken (a0, x0, ()) with
   | none => none
   | some (y1, y2, y3, y4, _) => match (!y4) with
    | true => some (.inr (.inl (false, ())))
    | false => match y3 with
     | true => match idx a1 (IntKind.wrap .i64 ((dlen a1) - 1)) with
      | none => none
      | some x5 => match (!(ieq (dget a1 (dnat (IntKind.wrap .i64 ((dlen a1) - 1))) 0) y1)) with
       | true => some (.inr (.inl (false, ())))
       | false => match (ilt 0 (IntKind.wrap .i64 ((dlen a1) - 1))) with
        | true => match idx a1 (IntKind.wrap .i64 ((IntKind.wrap .i64 ((dlen a1) - 1)) - 1)) with
         | none => none
         | some x6 => match (ieq (dget a1 (dnat (IntKind.wrap .i64 ((IntKind.wrap .i64 ((dlen a1) - 1)) - 1))) 0) y2) with
          | true => match subl a1 0 (IntKind.wrap .i64 ((dlen a1) - 1)) with
           | none => none
           | some x7 => match (!y3) with
            | true => match idx (dcut 0 (dnat (dlen x7)) a1) (IntKind.wrap .i64 ((((dnat (dlen x7)) : Nat) : Int) - 1)) with
             | none => none
             | some x8 => match (!(ieq (dget a1 (0 + (dnat (IntKind.wrap .i64 ((((dnat (dlen x7)) : Nat) : Int) - 1)))) 0) y1)) with
              | true => some (.inr (.inl (false, ())))
              | false => match (!y3) with
               | true => some (.inl (a0, (dtake (dnat (dlen x7)) a1), a2, (storeM a3 y1 (IntKind.wrap .i64 (((lookupM a3 y1).getD 0) + 1))), a4, a5, (IntKind.wrap .i64 (a6 + 1)), ()))
               | false => some (.inl (a0, (dtake (dnat (dlen x7)) a1), a2, a3, a4, a5, (IntKind.wrap .i64 (a6 + 1)), ()))
            | false => match (!y3) with
             | true => some (.inl (a0, (dtake (dnat (dlen x7)) a1), a2, (storeM a3 y1 (IntKind.wrap .i64 (((lookupM a3 y1).getD 0) + 1))), a4, a5, (IntKind.wrap .i64 (a6 + 1)), ()))
             | false => some (.inl (a0, (dtake (dnat (dlen x7)) a1), a2, a3, a4, a5, (IntKind.wrap .i64 (a6 + 1)), ()))
          | false => match (ilt 0 ((lookupM a2 y2).getD 0)) with
           | true => some (.inr (.inl (false, ())))
           | false => match (fits ((dlen a1) + (dlen ([y2] : List (Int))))) with
            | true => match (!y3) with
             | true => match idx (dapp a1 ([y2] : List (Int))) (IntKind.wrap .i64 ((dlen (dapp a1 ([y2] : List (Int)))) - 1)) with
              | none => none
              | some x9 => match (!(ieq (dget (dapp a1 ([y2] : List (Int))) (dnat (IntKind.wrap .i64 ((dlen (dapp a1 ([y2] : List (Int)))) - 1))) 0) y1)) with
               | true => some (.inr (.inl (false, ())))
               | false => match (!y3) with
                | true => some (.inl (a0, (dapp a1 ([y2] : List (Int))), (storeM a2 y2 (IntKind.wrap .i64 (((lookupM a2 y2).getD 0) + 1))), (storeM a3 y1 (IntKind.wrap .i64 (((lookupM a3 y1).getD 0) + 1))), a4, a5, (IntKind.wrap .i64 (a6 + 1)), ()))
                | false => some (.inl (a0, (dapp a1 ([y2] : List (Int))), (storeM a2 y2 (IntKind.wrap .i64 (((lookupM a2 y2).getD 0) + 1))), a3, a4, a5, (IntKind.wrap .i64 (a6 + 1)), ()))
             | false => match (!y3) with
              | true => some (.inl (a0, (dapp a1 ([y2] : List (Int))), (storeM a2 y2 (IntKind.wrap .i64 (((lookupM a2 y2).getD 0) + 1))), (storeM a3 y1 (IntKind.wrap .i64 (((lookupM a3 y1).getD 0) + 1))), a4, a5, (IntKind.wrap .i64 (a6 + 1)), ()))
              | false => some (.inl (a0, (dapp a1 ([y2] : List (Int))), (storeM a2 y2 (IntKind.wrap .i64 (((lookupM a2 y2).getD 0) + 1))), a3, a4, a5, (IntKind.wrap .i64 (a6 + 1)), ()))
            | false => none
        | false => match (ilt 0 ((lookupM a2 y2).getD 0)) with
         | true => some (.inr (.inl (false, ())))
         | false => match (fits ((dlen a1) + (dlen ([y2] : List (Int))))) with
          | true => match (!y3) with
           | true => match idx (dapp a1 ([y2] : List (Int))) (IntKind.wrap .i64 ((dlen (dapp a1 ([y2] : List (Int)))) - 1)) with
            | none => none
            | some x10 => match (!(ieq (dget (dapp a1 ([y2] : List (Int))) (dnat (IntKind.wrap .i64 ((dlen (dapp a1 ([y2] : List (Int)))) - 1))) 0) y1)) with
             | true => some (.inr (.inl (false, ())))
             | false => match (!y3) with
              | true => some (.inl (a0, (dapp a1 ([y2] : List (Int))), (storeM a2 y2 (IntKind.wrap .i64 (((lookupM a2 y2).getD 0) + 1))), (storeM a3 y1 (IntKind.wrap .i64 (((lookupM a3 y1).getD 0) + 1))), a4, a5, (IntKind.wrap .i64 (a6 + 1)), ()))
              | false => some (.inl (a0, (dapp a1 ([y2] : List (Int))), (storeM a2 y2 (IntKind.wrap .i64 (((lookupM a2 y2).getD 0) + 1))), a3, a4, a5, (IntKind.wrap .i64 (a6 + 1)), ()))
           | false => match (!y3) with
            | true => some (.inl (a0, (dapp a1 ([y2] : List (Int))), (storeM a2 y2 (IntKind.wrap .i64 (((lookupM a2 y2).getD 0) + 1))), (storeM a3 y1 (IntKind.wrap .i64 (((lookupM a3 y1).getD 0) + 1))), a4, a5, (IntKind.wrap .i64 (a6 + 1)), ()))
            | false => some (.inl (a0, (dapp a1 ([y2] : List (Int))), (storeM a2 y2 (IntKind.wrap .i64 (((lookupM a2 y2).getD 0) + 1))), a3, a4, a5, (IntKind.wrap .i64 (a6 + 1)), ()))
          | false => none
     | false => match (!y3) with
      | true => match idx a1 (IntKind.wrap .i64 ((dlen a1) - 1)) with
       | none => none
       | some x11 => match (!(ieq (dget a1 (dnat (IntKind.wrap .i64 ((dlen a1) - 1))) 0) y1)) with
        | true => some (.inr (.inl (false, ())))
        | false => match (!y3) with
         | true => some (.inl (a0, a1, a2, (storeM a3 y1 (IntKind.wrap .i64 (((lookupM a3 y1).getD 0) + 1))), a4, a5, (IntKind.wrap .i64 (a6 + 1)), ()))
         | false => some (.inl (a0, a1, a2, a3, a4, a5, (IntKind.wrap .i64 (a6 + 1)), ()))
      | false => match (!y3) with
       | true => some (.inl (a0, a1, a2, (storeM a3 y1 (IntKind.wrap .i64 (((lookupM a3 y1).getD 0) + 1))), a4, a5, (IntKind.wrap .i64 (a6 + 1)), ()))
       | false => some (.inl (a0, a1, a2, a3, a4, a5, (IntKind.wrap .i64 (a6 + 1)), ()))
 | false => some (.inr (.inr (.inl (a1, a2, a3, ()))))
def goes_d [Lk] : (Int × List Int × Unit) → Option ((Bool × Unit)) := fun (a0, a1, _) =>
 match idx a1 0 with
 | none => none
 | some x0 => match tin (a0, x0, ()) with
  | none => none
  | some (y1, _) => match (!y1) with
   | true => some (false, ())
   | false => match idx a1 0 with
    | none => none
    | some x2 => match idx a1 0 with
     | none => none
     | some x3 => match iterL goes_s0 many (a0, ([x2] : List (Int)), (storeM ([] : List (Int × Int)) x3 1), ([] : List (Int × Int)), a1, (dlen a1), 0, ()) with
      | none => none
      | some r => match r with
       | .inl (o4, _) => some (o4, ())
       | .inr r => match r with
        | .inl (o5, o6, o7, _) => match (ieq (dlen o5) 1) with
         | true => some ((ieq (dlen o7) (dlen o6)), ())
         | false => some (false, ())
        | .inr _ => none
def goes [Lk] := fun v => Lk.f (goes_d v)
theorem goes_eq v : goes v = goes_d v := lock_eq _
-- archipelago/tour.Right
abbrev tright_i : Items := [(.tmp 0, .dat (.prod (.int .i64) (.prod (.slice (.slice (.int .i64))) .unit)))]
abbrev tright_o : Items := [(.tmp 0, .dat .bool)]
abbrev tright_r : List RS := [.one]
abbrev tright_i2 : Items := [(.tmp 3, .map (.int .i64) (.int .i64)), (.tmp 78, .di), (.tmp 79, .di)]
abbrev tright_o2 : Outs := [(.ret, [(.tmp 2, .dat .bool)]), (.exit 4, [])]
def tright_s2 [Lk] : (List (Int × Int) × Int × Int × Unit) → Option ((List (Int × Int) × Int × Int × Unit) ⊕ (Bool × Unit) ⊕ (Unit) ⊕ Unit) := fun (a0, a1, a2, _) =>
 match (ilt a2 a1) with
 | true => match (ieq ((lookupM a0 a2).getD 0) 0) with
  | true => some (.inr (.inl (false, ())))
  | false => some (.inl (a0, a1, (IntKind.wrap .i64 (a2 + 1)), ()))
 | false => some (.inr (.inr (.inl ())))
abbrev tright_i1 : Items := [(.tmp 1, .box 2), (.cell 0 0, .di), (.cell 0 1, .dat (.slice (.slice (.int .i64)))), (.tmp 3, .map (.int .i64) (.int .i64)), (.tmp 4, .di), (.tmp 16, .dat (.slice (.slice (.int .i64)))), (.tmp 17, .di), (.tmp 18, .di), (.tmp 26, .dat (.slice (.int .i64))), (.tmp 28, .di), (.tmp 29, .di), (.tmp 30, .dat .bool), (.tmp 33, .dat (.slice (.int .i64))), (.tmp 34, .dat .bool), (.tmp 35, .dat .bool), (.tmp 38, .dat (.slice (.int .i64))), (.tmp 39, .di), (.tmp 40, .dat (.slice (.int .i64))), (.tmp 42, .di), (.tmp 43, .dat .bool), (.tmp 46, .ptr' 0 0), (.tmp 47, .di), (.tmp 48, .dat (.slice (.int .i64))), (.tmp 49, .dat .bool), (.tmp 50, .dat .bool), (.tmp 55, .dat (.slice (.int .i64))), (.tmp 56, .di), (.tmp 57, .di)]
abbrev tright_o1 : Outs := [(.ret, [(.tmp 2, .dat .bool)]), (.exit 2, [(.tmp 1, .box 2), (.cell 0 0, .di), (.cell 0 1, .dat (.slice (.slice (.int .i64)))), (.tmp 3, .map (.int .i64) (.int .i64)), (.tmp 4, .di), (.tmp 16, .dat (.slice (.slice (.int .i64)))), (.tmp 17, .di), (.tmp 18, .di), (.tmp 26, .dat (.slice (.int .i64))), (.tmp 28, .di), (.tmp 29, .di), (.tmp 30, .dat .bool), (.tmp 33, .dat (.slice (.int .i64))), (.tmp 34, .dat .bool), (.tmp 35, .dat .bool), (.tmp 38, .dat (.slice (.int .i64))), (.tmp 39, .di), (.tmp 40, .dat (.slice (.int .i64))), (.tmp 42, .di), (.tmp 43, .dat .bool), (.tmp 46, .ptr' 0 0), (.tmp 47, .di), (.tmp 48, .dat (.slice (.int .i64))), (.tmp 49, .dat .bool), (.tmp 50, .dat .bool)])]
def tright_s1 [Lk] : (Int × List (List Int) × List (Int × Int) × Int × List (List Int) × Int × Int × List Int × Int × Int × Bool × List Int × Bool × Bool × List Int × Int × List Int × Int × Bool × Int × List Int × Bool × Bool × List Int × Int × Int × Unit) → Option ((Int × List (List Int) × List (Int × Int) × Int × List (List Int) × Int × Int × List Int × Int × Int × Bool × List Int × Bool × Bool × List Int × Int × List Int × Int × Bool × Int × List Int × Bool × Bool × List Int × Int × Int × Unit) ⊕ (Bool × Unit) ⊕ (Int × List (List Int) × List (Int × Int) × Int × List (List Int) × Int × Int × List Int × Int × Int × Bool × List Int × Bool × Bool × List Int × Int × List Int × Int × Bool × Int × List Int × Bool × Bool × Unit) ⊕ Unit) := fun (a0, a1, a2, a3, a4, a5, a6, a7, a8, a9, a10, a11, a12, a13, a14, a15, a16, a17, a18, a19, a20, a21, a22, a23, a24, a25, _) =>
 match (ilt a25 a24) with
 | true => match idx a23 a25 with
  | none => none
  | some x0 => match (ilt x0 a0) with
   | true => match (ilt 0 ((lookupM a2 x0).getD 0)) with
    | true => some (.inr (.inl (false, ())))
    | false => some (.inl (a0, a1, (storeM a2 x0 (IntKind.wrap .i64 (((lookupM a2 x0).getD 0) + 1))), a3, a4, a5, a6, a7, a8, a9, a10, a11, a12, a13, a14, a15, a16, a17, a18, a19, a20, a21, a22, a23, a24, (IntKind.wrap .i64 (a25 + 1)), ()))
   | false => some (.inl (a0, a1, (storeM a2 x0 (IntKind.wrap .i64 (((lookupM a2 x0).getD 0) + 1))), a3, a4, a5, a6, a7, a8, a9, a10, a11, a12, a13, a14, a15, a16, a17, a18, a19, a20, a21, a22, a23, a24, (IntKind.wrap .i64 (a25 + 1)), ()))
 | false => some (.inr (.inr (.inl (a0, a1, a2, a3, a4, a5, a6, a7, a8, a9, a10, a11, a12, a13, a14, a15, a16, a17, a18, a19, a20, a21, a22, ()))))
abbrev tright_i0 : Items := [(.tmp 1, .box 2), (.cell 0 0, .di), (.cell 0 1, .dat (.slice (.slice (.int .i64)))), (.tmp 3, .map (.int .i64) (.int .i64)), (.tmp 4, .di), (.tmp 16, .dat (.slice (.slice (.int .i64)))), (.tmp 17, .di), (.tmp 18, .di)]
abbrev tright_o0 : Outs := [(.ret, [(.tmp 2, .dat .bool)]), (.exit 0, [(.tmp 1, .box 2), (.cell 0 0, .di), (.cell 0 1, .dat (.slice (.slice (.int .i64)))), (.tmp 3, .map (.int .i64) (.int .i64))])]
def tright_s0 [Lk] : (Int × List (List Int) × List (Int × Int) × Int × List (List Int) × Int × Int × Unit) → Option ((Int × List (List Int) × List (Int × Int) × Int × List (List Int) × Int × Int × Unit) ⊕ (Bool × Unit) ⊕ (Int × List (List Int) × List (Int × Int) × Unit) ⊕ Unit) := fun (a0, a1, a2, a3, a4, a5, a6, _) =>
 match (ilt a6 a5) with
 | true => match idx a4 a6 with
  | none => none
  | some x0 => match (ieq (dlen x0) 0) with
   | true => some (.inr (.inl (false, ())))
   | false => match idx x0 0 with
    | none => none
    | some x1 => match (ile x1 a3) with
     | true => some (.inr (.inl (false, ())))
     | false => match rright (x0, ()) with
      | none => none
      | some (y2, _) => match (!y2) with
       | true => some (.inr (.inl (false, ())))
       | false => match minI (x0, ()) with
        | none => none
        | some (y3, _) => match idx x0 0 with
         | none => none
         | some x4 => match (!(ieq y3 x4)) with
          | true => some (.inr (.inl (false, ())))
          | false => match goes (a0, x0, ()) with
           | none => none
           | some (y5, _) => match (!y5) with
            | true => some (.inr (.inl (false, ())))
            | false => match idx x0 0 with
             | none => none
             | some x6 => match iterL tright_s1 many (a0, a1, a2, x6, a4, a5, a6, x0, x1, a3, (ile x1 a3), x0, y2, (!y2), x0, y3, x0, x4, (!(ieq y3 x4)), a0, x0, y5, (!y5), x0, (dlen x0), 0, ()) with
              | none => none
              | some r => match r with
               | .inl (o7, _) => some (.inr (.inl (o7, ())))
               | .inr r => match r with
                | .inl (o8, o9, o10, o11, o12, o13, o14, o15, o16, o17, o18, o19, o20, o21, o22, o23, o24, o25, o26, o27, o28, o29, o30, _) => some (.inl (o8, o9, o10, o11, o12, o13, (IntKind.wrap .i64 (o14 + 1)), ()))
                | .inr _ => none
 | false => some (.inr (.inr (.inl (a0, a1, a2, ()))))
def tright_d [Lk] : ((Int × (List (List Int)) × Unit) × Unit) → Option ((Bool × Unit)) := fun (a0, _) =>
 match tsized (a0.1, ()) with
 | none => none
 | some (y0, _) => match (!y0) with
  | true => some (false, ())
  | false => match iterL tright_s0 many (a0.1, a0.2.1, ([] : List (Int × Int)), (-1 : Int), a0.2.1, (dlen a0.2.1), 0, ()) with
   | none => none
   | some r => match r with
    | .inl (o1, _) => some (o1, ())
    | .inr r => match r with
     | .inl (o2, o3, o4, _) => match iterL tright_s2 many (o4, o2, 0, ()) with
      | none => none
      | some r => match r with
       | .inl (o5, _) => some (o5, ())
       | .inr r => match r with
        | .inl _ => some (true, ())
        | .inr _ => none
     | .inr _ => none
def tright [Lk] := fun v => Lk.f (tright_d v)
theorem tright_eq v : tright v = tright_d v := lock_eq _
-- archipelago/tour.asked
abbrev asked_i : Items := [(.tmp 0, .dat (.prod (.int .i64) (.prod (.slice (.slice (.int .i64))) .unit))), (.tmp 1, .di), (.tmp 2, .di)]
abbrev asked_o : Items := [(.tmp 0, .di)]
abbrev asked_r : List RS := [.one]
def asked_d [Lk] : ((Int × (List (List Int)) × Unit) × Int × Int × Unit) → Option ((Int × Unit)) := fun (a0, a1, a2, _) =>
 match tright ((a0.1, (a0.2.1, ())), ()) with
 | none => none
 | some (y0, _) => match (!y0) with
  | true => some (1, ())
  | false => match tin (a0.1, a1, ()) with
   | none => none
   | some (y1, _) => match (!y1) with
    | true => some (10, ())
    | false => match tin (a0.1, a2, ()) with
     | none => none
     | some (y2, _) => match (!y2) with
      | true => some (10, ())
      | false => some (0, ())
def asked [Lk] := fun v => Lk.f (asked_d v)
theorem asked_eq v : asked v = asked_d v := lock_eq _
-- cmp.isNaN[int]
abbrev nanI_i : Items := [(.tmp 0, .di)]
abbrev nanI_o : Items := [(.tmp 0, .dat .bool)]
abbrev nanI_r : List RS := [.one]
def nanI_d [Lk] : (Int × Unit) → Option ((Bool × Unit)) := fun (a0, _) =>
 some ((!(ieq a0 a0)), ())
def nanI [Lk] := fun v => Lk.f (nanI_d v)
theorem nanI_eq v : nanI v = nanI_d v := lock_eq _
-- cmp.Compare[int]
abbrev compareI_i : Items := [(.tmp 0, .di), (.tmp 1, .di)]
abbrev compareI_o : Items := [(.tmp 0, .di)]
abbrev compareI_r : List RS := [.one]
def compareI_d [Lk] : (Int × Int × Unit) → Option ((Int × Unit)) := fun (a0, a1, _) =>
 match nanI (a0, ()) with
 | none => none
 | some (y0, _) => match nanI (a1, ()) with
  | none => none
  | some (y1, _) => match y0 with
   | true => match y1 with
    | true => some (0, ())
    | false => some ((-1 : Int), ())
   | false => match y1 with
    | true => some (1, ())
    | false => match (ilt a0 a1) with
     | true => some ((-1 : Int), ())
     | false => match (ilt a1 a0) with
      | true => some (1, ())
      | false => some (0, ())
def compareI [Lk] := fun v => Lk.f (compareI_d v)
theorem compareI_eq v : compareI v = compareI_d v := lock_eq _
-- archipelago/tour.with$1
abbrev with1_i : Items := [(.tmp 0, .dat (.slice (.int .i64))), (.tmp 1, .dat (.slice (.int .i64)))]
abbrev with1_o : Items := [(.tmp 0, .di)]
abbrev with1_r : List RS := [.one]
def with1_d [Lk] : (List Int × List Int × Unit) → Option ((Int × Unit)) := fun (a0, a1, _) =>
 match idx a0 0 with
 | none => none
 | some x0 => match idx a1 0 with
  | none => none
  | some x1 => match compareI (x0, x1, ()) with
   | none => none
   | some (y2, _) => some (y2, ())
def with1 [Lk] := fun v => Lk.f (with1_d v)
theorem with1_eq v : with1 v = with1_d v := lock_eq _
-- math/bits.Len64
def lenTab : List Int := [0, 1, 2, 2, 3, 3, 3, 3, 4, 4, 4, 4, 4, 4, 4, 4, 5, 5, 5, 5, 5, 5, 5, 5, 5, 5, 5, 5, 5, 5, 5, 5, 6, 6, 6, 6, 6, 6, 6, 6, 6, 6, 6, 6, 6, 6, 6, 6, 6, 6, 6, 6, 6, 6, 6, 6, 6, 6, 6, 6, 6, 6, 6, 6, 7, 7, 7, 7, 7, 7, 7, 7, 7, 7, 7, 7, 7, 7, 7, 7, 7, 7, 7, 7, 7, 7, 7, 7, 7, 7, 7, 7, 7, 7, 7, 7, 7, 7, 7, 7, 7, 7, 7, 7, 7, 7, 7, 7, 7, 7, 7, 7, 7, 7, 7, 7, 7, 7, 7, 7, 7, 7, 7, 7, 7, 7, 7, 7, 8, 8, 8, 8, 8, 8, 8, 8, 8, 8, 8, 8, 8, 8, 8, 8, 8, 8, 8, 8, 8, 8, 8, 8, 8, 8, 8, 8, 8, 8, 8, 8, 8, 8, 8, 8, 8, 8, 8, 8, 8, 8, 8, 8, 8, 8, 8, 8, 8, 8, 8, 8, 8, 8, 8, 8, 8, 8, 8, 8, 8, 8, 8, 8, 8, 8, 8, 8, 8, 8, 8, 8, 8, 8, 8, 8, 8, 8, 8, 8, 8, 8, 8, 8, 8, 8, 8, 8, 8, 8, 8, 8, 8, 8, 8, 8, 8, 8, 8, 8, 8, 8, 8, 8, 8, 8, 8, 8, 8, 8, 8, 8, 8, 8, 8, 8, 8, 8, 8, 8, 8, 8, 8, 8, 8, 8, 8, 8]
abbrev len64_i : Items := [(.tmp 0, .dat (.int .u64))]
abbrev len64_o : Items := [(.tmp 0, .di)]
abbrev len64_r : List RS := [.one]
def len64_d [Lk] : (Int × Unit) → Option ((Int × Unit)) := fun (a0, _) =>
 match (ile 4294967296 a0) with
 | true => match shr? .u64 a0 32 with
  | none => none
  | some x0 => match (ile 65536 x0) with
   | true => match shr? .u64 x0 16 with
    | none => none
    | some x1 => match (ile 256 x1) with
     | true => match shr? .u64 x1 8 with
      | none => none
      | some x2 => match idx lenTab (IntKind.wrap .u8 x2) with
       | none => none
       | some x3 => some ((IntKind.wrap .i64 ((IntKind.wrap .i64 ((IntKind.wrap .i64 (32 + 16)) + 8)) + (IntKind.wrap .i64 x3))), ())
     | false => match idx lenTab (IntKind.wrap .u8 x1) with
      | none => none
      | some x4 => some ((IntKind.wrap .i64 ((IntKind.wrap .i64 (32 + 16)) + (IntKind.wrap .i64 x4))), ())
   | false => match (ile 256 x0) with
    | true => match shr? .u64 x0 8 with
     | none => none
     | some x5 => match idx lenTab (IntKind.wrap .u8 x5) with
      | none => none
      | some x6 => some ((IntKind.wrap .i64 ((IntKind.wrap .i64 (32 + 8)) + (IntKind.wrap .i64 x6))), ())
    | false => match idx lenTab (IntKind.wrap .u8 x0) with
     | none => none
     | some x7 => some ((IntKind.wrap .i64 (32 + (IntKind.wrap .i64 x7))), ())
 | false => match (ile 65536 a0) with
  | true => match shr? .u64 a0 16 with
   | none => none
   | some x8 => match (ile 256 x8) with
    | true => match shr? .u64 x8 8 with
     | none => none
     | some x9 => match idx lenTab (IntKind.wrap .u8 x9) with
      | none => none
      | some x10 => some ((IntKind.wrap .i64 ((IntKind.wrap .i64 ((IntKind.wrap .i64 (0 + 16)) + 8)) + (IntKind.wrap .i64 x10))), ())
    | false => match idx lenTab (IntKind.wrap .u8 x8) with
     | none => none
     | some x11 => some ((IntKind.wrap .i64 ((IntKind.wrap .i64 (0 + 16)) + (IntKind.wrap .i64 x11))), ())
  | false => match (ile 256 a0) with
   | true => match shr? .u64 a0 8 with
    | none => none
    | some x12 => match idx lenTab (IntKind.wrap .u8 x12) with
     | none => none
     | some x13 => some ((IntKind.wrap .i64 ((IntKind.wrap .i64 (0 + 8)) + (IntKind.wrap .i64 x13))), ())
   | false => match idx lenTab (IntKind.wrap .u8 a0) with
    | none => none
    | some x14 => some ((IntKind.wrap .i64 (0 + (IntKind.wrap .i64 x14))), ())
def len64 [Lk] := fun v => Lk.f (len64_d v)
theorem len64_eq v : len64 v = len64_d v := lock_eq _
-- math/bits.Len
abbrev bitsLen_i : Items := [(.tmp 0, .dat (.int .u64))]
abbrev bitsLen_o : Items := [(.tmp 0, .di)]
abbrev bitsLen_r : List RS := [.one]
def bitsLen_d [Lk] : (Int × Unit) → Option ((Int × Unit)) := fun (a0, _) =>
 match len64 (a0, ()) with
 | none => none
 | some (y0, _) => some (y0, ())
def bitsLen [Lk] := fun v => Lk.f (bitsLen_d v)
theorem bitsLen_eq v : bitsLen v = bitsLen_d v := lock_eq _
-- (*slices.xorshift).Next
abbrev xorNext_i : Items := [(.tmp 0, .box 1), (.cell 0 0, .dat (.int .u64))]
abbrev xorNext_o : Items := [(.obj 0, .box 1), (.cell 0 0, .dat (.int .u64)), (.tmp 0, .dat (.int .u64))]
abbrev xorNext_r : List RS := [.one]
def xorNext_d [Lk] : (Int × Unit) → Option ((Int × Int × Unit)) := fun (a0, _) =>
 match shl? .u64 a0 13 with
 | none => none
 | some x0 => match shr? .u64 (IntKind.wrap .u64 ((BitVec.ofInt (IntKind.bits .u64) a0 ^^^ BitVec.ofInt (IntKind.bits .u64) x0).toNat)) 7 with
  | none => none
  | some x1 => match shl? .u64 (IntKind.wrap .u64 ((BitVec.ofInt (IntKind.bits .u64) (IntKind.wrap .u64 ((BitVec.ofInt (IntKind.bits .u64) a0 ^^^ BitVec.ofInt (IntKind.bits .u64) x0).toNat)) ^^^ BitVec.ofInt (IntKind.bits .u64) x1).toNat)) 17 with
   | none => none
   | some x2 => some ((IntKind.wrap .u64 ((BitVec.ofInt (IntKind.bits .u64) (IntKind.wrap .u64 ((BitVec.ofInt (IntKind.bits .u64) (IntKind.wrap .u64 ((BitVec.ofInt (IntKind.bits .u64) a0 ^^^ BitVec.ofInt (IntKind.bits .u64) x0).toNat)) ^^^ BitVec.ofInt (IntKind.bits .u64) x1).toNat)) ^^^ BitVec.ofInt (IntKind.bits .u64) x2).toNat)), (IntKind.wrap .u64 ((BitVec.ofInt (IntKind.bits .u64) (IntKind.wrap .u64 ((BitVec.ofInt (IntKind.bits .u64) (IntKind.wrap .u64 ((BitVec.ofInt (IntKind.bits .u64) a0 ^^^ BitVec.ofInt (IntKind.bits .u64) x0).toNat)) ^^^ BitVec.ofInt (IntKind.bits .u64) x1).toNat)) ^^^ BitVec.ofInt (IntKind.bits .u64) x2).toNat)), ())
def xorNext [Lk] := fun v => Lk.f (xorNext_d v)
theorem xorNext_eq v : xorNext v = xorNext_d v := lock_eq _
-- slices.nextPowerOfTwo
abbrev nextPow_i : Items := [(.tmp 0, .di)]
abbrev nextPow_o : Items := [(.tmp 0, .dat (.int .u64))]
abbrev nextPow_r : List RS := [.one]
def nextPow_d [Lk] : (Int × Unit) → Option ((Int × Unit)) := fun (a0, _) =>
 match bitsLen ((IntKind.wrap .u64 a0), ()) with
 | none => none
 | some (y0, _) => match shl? .u64 1 y0 with
  | none => none
  | some x1 => some (x1, ())
def nextPow [Lk] := fun v => Lk.f (nextPow_d v)
theorem nextPow_eq v : nextPow v = nextPow_d v := lock_eq _
-- sorts by a compare function, over any type
def insG_s1 [Lk] {α : Type} (z : α) (c : α × α × Unit → Option (Int × Unit)) : (List α × Int × Int × Int × Int × Unit) → Option ((List α × Int × Int × Int × Int × Unit) ⊕ (List α × Int × Int × Int × Unit) ⊕ Unit) := fun (a0, a1, a2, a3, a4, _) =>
 match (ilt a1 a4) with
 | true => match idx a0 a4 with
  | none => none
  | some x0 => match idx a0 (IntKind.wrap .i64 (a4 - 1)) with
   | none => none
   | some x1 => match c ((dget a0 (dnat a4) z), (dget a0 (dnat (IntKind.wrap .i64 (a4 - 1))) z), ()) with
    | none => none
    | some (y2, _) => match (ilt y2 0) with
     | true => match idx a0 (IntKind.wrap .i64 (a4 - 1)) with
      | none => none
      | some x3 => match idx a0 a4 with
       | none => none
       | some x4 => match idx a0 a4 with
        | none => none
        | some x5 => match idx (dset a0 (dnat a4) (dget a0 (dnat (IntKind.wrap .i64 (a4 - 1))) z)) (IntKind.wrap .i64 (a4 - 1)) with
         | none => none
         | some x6 => some (.inl ((dset (dset a0 (dnat a4) (dget a0 (dnat (IntKind.wrap .i64 (a4 - 1))) z)) (dnat (IntKind.wrap .i64 (a4 - 1))) (dget a0 (dnat a4) z)), a1, a2, a3, (IntKind.wrap .i64 (a4 - 1)), ()))
     | false => some (.inr (.inl (a0, a1, a2, a3, ())))
 | false => some (.inr (.inl (a0, a1, a2, a3, ())))
def insG_s0 [Lk] {α : Type} (z : α) (c : α × α × Unit → Option (Int × Unit)) : (List α × Int × Int × Int × Unit) → Option ((List α × Int × Int × Int × Unit) ⊕ (List α × Unit) ⊕ Unit) := fun (a0, a1, a2, a3, _) =>
 match (ilt a3 a2) with
 | true => match iterL (insG_s1 z c) many (a0, a1, a2, a3, a3, ()) with
  | none => none
  | some r => match r with
   | .inl (o0, o1, o2, o3, _) => some (.inl (o0, o1, o2, (IntKind.wrap .i64 (o3 + 1)), ()))
   | .inr _ => none
 | false => some (.inr (.inl (a0, ())))
def insG_d [Lk] {α : Type} (z : α) (c : α × α × Unit → Option (Int × Unit)) : (List α × Int × Int × Unit) → Option ((List α × Unit)) := fun (a0, a1, a2, _) =>
 match iterL (insG_s0 z c) many (a0, a1, a2, (IntKind.wrap .i64 (a1 + 1)), ()) with
 | none => none
 | some r => match r with
  | .inl (o0, _) => some (o0, ())
  | .inr _ => none
def insG [Lk] {α : Type} (z : α) (c : α × α × Unit → Option (Int × Unit)) (v : (List α × Int × Int × Unit)) : Option ((List α × Unit)) := Lk.f ((insG_d z c) v)
theorem insG_eq {α : Type} (z : α) (c : α × α × Unit → Option (Int × Unit)) (v : (List α × Int × Int × Unit)) : (insG z c) v = (insG_d z c) v := lock_eq _
def siftG_s0 [Lk] {α : Type} (z : α) (c : α × α × Unit → Option (Int × Unit)) : (List α × Int × Int × Int × Unit) → Option ((List α × Int × Int × Int × Unit) ⊕ (List α × Unit) ⊕ (List α × Unit) ⊕ Unit) := fun (a0, a1, a2, a3, _) =>
 match (ile a1 (IntKind.wrap .i64 ((IntKind.wrap .i64 (2 * a3)) + 1))) with
 | true => some (.inr (.inl (a0, ())))
 | false => match (ilt (IntKind.wrap .i64 ((IntKind.wrap .i64 ((IntKind.wrap .i64 (2 * a3)) + 1)) + 1)) a1) with
  | true => match idx a0 (IntKind.wrap .i64 (a2 + (IntKind.wrap .i64 ((IntKind.wrap .i64 (2 * a3)) + 1)))) with
   | none => none
   | some x0 => match idx a0 (IntKind.wrap .i64 ((IntKind.wrap .i64 (a2 + (IntKind.wrap .i64 ((IntKind.wrap .i64 (2 * a3)) + 1)))) + 1)) with
    | none => none
    | some x1 => match c ((dget a0 (dnat (IntKind.wrap .i64 (a2 + (IntKind.wrap .i64 ((IntKind.wrap .i64 (2 * a3)) + 1))))) z), (dget a0 (dnat (IntKind.wrap .i64 ((IntKind.wrap .i64 (a2 + (IntKind.wrap .i64 ((IntKind.wrap .i64 (2 * a3)) + 1)))) + 1))) z), ()) with
     | none => none
     | some (y2, _) => match (ilt y2 0) with
      | true => match idx a0 (IntKind.wrap .i64 (a2 + a3)) with
       | none => none
       | some x3 => match idx a0 (IntKind.wrap .i64 (a2 + (IntKind.wrap .i64 ((IntKind.wrap .i64 ((IntKind.wrap .i64 (2 * a3)) + 1)) + 1)))) with
        | none => none
        | some x4 => match c ((dget a0 (dnat (IntKind.wrap .i64 (a2 + a3))) z), (dget a0 (dnat (IntKind.wrap .i64 (a2 + (IntKind.wrap .i64 ((IntKind.wrap .i64 ((IntKind.wrap .i64 (2 * a3)) + 1)) + 1))))) z), ()) with
         | none => none
         | some (y5, _) => match (!(ilt y5 0)) with
          | true => some (.inr (.inr (.inl (a0, ()))))
          | false => match idx a0 (IntKind.wrap .i64 (a2 + (IntKind.wrap .i64 ((IntKind.wrap .i64 ((IntKind.wrap .i64 (2 * a3)) + 1)) + 1)))) with
           | none => none
           | some x6 => match idx a0 (IntKind.wrap .i64 (a2 + a3)) with
            | none => none
            | some x7 => match idx a0 (IntKind.wrap .i64 (a2 + a3)) with
             | none => none
             | some x8 => match idx (dset a0 (dnat (IntKind.wrap .i64 (a2 + a3))) (dget a0 (dnat (IntKind.wrap .i64 (a2 + (IntKind.wrap .i64 ((IntKind.wrap .i64 ((IntKind.wrap .i64 (2 * a3)) + 1)) + 1))))) z)) (IntKind.wrap .i64 (a2 + (IntKind.wrap .i64 ((IntKind.wrap .i64 ((IntKind.wrap .i64 (2 * a3)) + 1)) + 1)))) with
              | none => none
              | some x9 => some (.inl ((dset (dset a0 (dnat (IntKind.wrap .i64 (a2 + a3))) (dget a0 (dnat (IntKind.wrap .i64 (a2 + (IntKind.wrap .i64 ((IntKind.wrap .i64 ((IntKind.wrap .i64 (2 * a3)) + 1)) + 1))))) z)) (dnat (IntKind.wrap .i64 (a2 + (IntKind.wrap .i64 ((IntKind.wrap .i64 ((IntKind.wrap .i64 (2 * a3)) + 1)) + 1))))) (dget a0 (dnat (IntKind.wrap .i64 (a2 + a3))) z)), a1, a2, (IntKind.wrap .i64 ((IntKind.wrap .i64 ((IntKind.wrap .i64 (2 * a3)) + 1)) + 1)), ()))
      | false => match idx a0 (IntKind.wrap .i64 (a2 + a3)) with
       | none => none
       | some x10 => match idx a0 (IntKind.wrap .i64 (a2 + (IntKind.wrap .i64 ((IntKind.wrap .i64 (2 * a3)) + 1)))) with
        | none => none
        | some x11 => match c ((dget a0 (dnat (IntKind.wrap .i64 (a2 + a3))) z), (dget a0 (dnat (IntKind.wrap .i64 (a2 + (IntKind.wrap .i64 ((IntKind.wrap .i64 (2 * a3)) + 1))))) z), ()) with
         | none => none
         | some (y12, _) => match (!(ilt y12 0)) with
          | true => some (.inr (.inr (.inl (a0, ()))))
          | false => match idx a0 (IntKind.wrap .i64 (a2 + (IntKind.wrap .i64 ((IntKind.wrap .i64 (2 * a3)) + 1)))) with
           | none => none
           | some x13 => match idx a0 (IntKind.wrap .i64 (a2 + a3)) with
            | none => none
            | some x14 => match idx a0 (IntKind.wrap .i64 (a2 + a3)) with
             | none => none
             | some x15 => match idx (dset a0 (dnat (IntKind.wrap .i64 (a2 + a3))) (dget a0 (dnat (IntKind.wrap .i64 (a2 + (IntKind.wrap .i64 ((IntKind.wrap .i64 (2 * a3)) + 1))))) z)) (IntKind.wrap .i64 (a2 + (IntKind.wrap .i64 ((IntKind.wrap .i64 (2 * a3)) + 1)))) with
              | none => none
              | some x16 => some (.inl ((dset (dset a0 (dnat (IntKind.wrap .i64 (a2 + a3))) (dget a0 (dnat (IntKind.wrap .i64 (a2 + (IntKind.wrap .i64 ((IntKind.wrap .i64 (2 * a3)) + 1))))) z)) (dnat (IntKind.wrap .i64 (a2 + (IntKind.wrap .i64 ((IntKind.wrap .i64 (2 * a3)) + 1))))) (dget a0 (dnat (IntKind.wrap .i64 (a2 + a3))) z)), a1, a2, (IntKind.wrap .i64 ((IntKind.wrap .i64 (2 * a3)) + 1)), ()))
  | false => match idx a0 (IntKind.wrap .i64 (a2 + a3)) with
   | none => none
   | some x17 => match idx a0 (IntKind.wrap .i64 (a2 + (IntKind.wrap .i64 ((IntKind.wrap .i64 (2 * a3)) + 1)))) with
    | none => none
    | some x18 => match c ((dget a0 (dnat (IntKind.wrap .i64 (a2 + a3))) z), (dget a0 (dnat (IntKind.wrap .i64 (a2 + (IntKind.wrap .i64 ((IntKind.wrap .i64 (2 * a3)) + 1))))) z), ()) with
     | none => none
     | some (y19, _) => match (!(ilt y19 0)) with
      | true => some (.inr (.inr (.inl (a0, ()))))
      | false => match idx a0 (IntKind.wrap .i64 (a2 + (IntKind.wrap .i64 ((IntKind.wrap .i64 (2 * a3)) + 1)))) with
       | none => none
       | some x20 => match idx a0 (IntKind.wrap .i64 (a2 + a3)) with
        | none => none
        | some x21 => match idx a0 (IntKind.wrap .i64 (a2 + a3)) with
         | none => none
         | some x22 => match idx (dset a0 (dnat (IntKind.wrap .i64 (a2 + a3))) (dget a0 (dnat (IntKind.wrap .i64 (a2 + (IntKind.wrap .i64 ((IntKind.wrap .i64 (2 * a3)) + 1))))) z)) (IntKind.wrap .i64 (a2 + (IntKind.wrap .i64 ((IntKind.wrap .i64 (2 * a3)) + 1)))) with
          | none => none
          | some x23 => some (.inl ((dset (dset a0 (dnat (IntKind.wrap .i64 (a2 + a3))) (dget a0 (dnat (IntKind.wrap .i64 (a2 + (IntKind.wrap .i64 ((IntKind.wrap .i64 (2 * a3)) + 1))))) z)) (dnat (IntKind.wrap .i64 (a2 + (IntKind.wrap .i64 ((IntKind.wrap .i64 (2 * a3)) + 1))))) (dget a0 (dnat (IntKind.wrap .i64 (a2 + a3))) z)), a1, a2, (IntKind.wrap .i64 ((IntKind.wrap .i64 (2 * a3)) + 1)), ()))
def siftG_d [Lk] {α : Type} (z : α) (c : α × α × Unit → Option (Int × Unit)) : (List α × Int × Int × Int × Unit) → Option ((List α × Unit)) := fun (a0, a1, a2, a3, _) =>
 match iterL (siftG_s0 z c) many (a0, a2, a3, a1, ()) with
 | none => none
 | some r => match r with
  | .inl (o0, _) => some (o0, ())
  | .inr r => match r with
   | .inl (o1, _) => some (o1, ())
   | .inr _ => none
def siftG [Lk] {α : Type} (z : α) (c : α × α × Unit → Option (Int × Unit)) (v : (List α × Int × Int × Int × Unit)) : Option ((List α × Unit)) := Lk.f ((siftG_d z c) v)
theorem siftG_eq {α : Type} (z : α) (c : α × α × Unit → Option (Int × Unit)) (v : (List α × Int × Int × Int × Unit)) : (siftG z c) v = (siftG_d z c) v := lock_eq _
def heapG_s1 [Lk] {α : Type} (z : α) (c : α × α × Unit → Option (Int × Unit)) : (List α × Int × Int × Int × Unit) → Option ((List α × Int × Int × Int × Unit) ⊕ (List α × Unit) ⊕ Unit) := fun (a0, a1, a2, a3, _) =>
 match (ile 0 a3) with
 | true => match idx a0 (IntKind.wrap .i64 (a1 + a3)) with
  | none => none
  | some x0 => match idx a0 a1 with
   | none => none
   | some x1 => match idx a0 a1 with
    | none => none
    | some x2 => match idx (dset a0 (dnat a1) (dget a0 (dnat (IntKind.wrap .i64 (a1 + a3))) z)) (IntKind.wrap .i64 (a1 + a3)) with
     | none => none
     | some x3 => match (siftG z c) ((dset (dset a0 (dnat a1) (dget a0 (dnat (IntKind.wrap .i64 (a1 + a3))) z)) (dnat (IntKind.wrap .i64 (a1 + a3))) (dget a0 (dnat a1) z)), a2, a3, a1, ()) with
      | none => none
      | some (y4, _) => some (.inl (y4, a1, a2, (IntKind.wrap .i64 (a3 - 1)), ()))
 | false => some (.inr (.inl (a0, ())))
def heapG_s0 [Lk] {α : Type} (z : α) (c : α × α × Unit → Option (Int × Unit)) : (List α × Int × Int × Int × Int × Unit) → Option ((List α × Int × Int × Int × Int × Unit) ⊕ (List α × Int × Int × Int × Unit) ⊕ Unit) := fun (a0, a1, a2, a3, a4, _) =>
 match (ile 0 a4) with
 | true => match (siftG z c) (a0, a4, a3, a1, ()) with
  | none => none
  | some (y0, _) => some (.inl (y0, a1, a2, a3, (IntKind.wrap .i64 (a4 - 1)), ()))
 | false => some (.inr (.inl (a0, a1, a2, a3, ())))
def heapG_d [Lk] {α : Type} (z : α) (c : α × α × Unit → Option (Int × Unit)) : (List α × Int × Int × Unit) → Option ((List α × Unit)) := fun (a0, a1, a2, _) =>
 match quo? .i64 (IntKind.wrap .i64 ((IntKind.wrap .i64 (a2 - a1)) - 1)) 2 with
 | none => none
 | some x0 => match iterL (heapG_s0 z c) many (a0, a1, 0, (IntKind.wrap .i64 (a2 - a1)), x0, ()) with
  | none => none
  | some r => match r with
   | .inl (o1, o2, o3, o4, _) => match iterL (heapG_s1 z c) many (o1, o2, o3, (IntKind.wrap .i64 (o4 - 1)), ()) with
    | none => none
    | some r => match r with
     | .inl (o5, _) => some (o5, ())
     | .inr _ => none
   | .inr _ => none
def heapG [Lk] {α : Type} (z : α) (c : α × α × Unit → Option (Int × Unit)) (v : (List α × Int × Int × Unit)) : Option ((List α × Unit)) := Lk.f ((heapG_d z c) v)
theorem heapG_eq {α : Type} (z : α) (c : α × α × Unit → Option (Int × Unit)) (v : (List α × Int × Int × Unit)) : (heapG z c) v = (heapG_d z c) v := lock_eq _
def breakG_s0 [Lk] {α : Type} (z : α) (c : α × α × Unit → Option (Int × Unit)) : (List α × Int × Int × Int × Int × Int × Unit) → Option ((List α × Int × Int × Int × Int × Int × Unit) ⊕ (List α × Unit) ⊕ Unit) := fun (a0, a1, a2, a3, a4, a5, _) =>
 match quo? .i64 a2 4 with
 | none => none
 | some x0 => match (ile a5 (IntKind.wrap .i64 ((IntKind.wrap .i64 (a1 + (IntKind.wrap .i64 (x0 * 2)))) + 1))) with
  | true => match xorNext (a3, ()) with
   | none => none
   | some (y1, y2, _) => match (ile a2 (IntKind.wrap .i64 (IntKind.wrap .u64 ((BitVec.ofInt (IntKind.bits .u64) y2 &&& BitVec.ofInt (IntKind.bits .u64) (IntKind.wrap .u64 (a4 - 1))).toNat)))) with
    | true => match idx a0 (IntKind.wrap .i64 (a1 + (IntKind.wrap .i64 ((IntKind.wrap .i64 (IntKind.wrap .u64 ((BitVec.ofInt (IntKind.bits .u64) y2 &&& BitVec.ofInt (IntKind.bits .u64) (IntKind.wrap .u64 (a4 - 1))).toNat))) - a2)))) with
     | none => none
     | some x3 => match idx a0 a5 with
      | none => none
      | some x4 => match idx a0 a5 with
       | none => none
       | some x5 => match idx (dset a0 (dnat a5) (dget a0 (dnat (IntKind.wrap .i64 (a1 + (IntKind.wrap .i64 ((IntKind.wrap .i64 (IntKind.wrap .u64 ((BitVec.ofInt (IntKind.bits .u64) y2 &&& BitVec.ofInt (IntKind.bits .u64) (IntKind.wrap .u64 (a4 - 1))).toNat))) - a2))))) z)) (IntKind.wrap .i64 (a1 + (IntKind.wrap .i64 ((IntKind.wrap .i64 (IntKind.wrap .u64 ((BitVec.ofInt (IntKind.bits .u64) y2 &&& BitVec.ofInt (IntKind.bits .u64) (IntKind.wrap .u64 (a4 - 1))).toNat))) - a2)))) with
        | none => none
        | some x6 => some (.inl ((dset (dset a0 (dnat a5) (dget a0 (dnat (IntKind.wrap .i64 (a1 + (IntKind.wrap .i64 ((IntKind.wrap .i64 (IntKind.wrap .u64 ((BitVec.ofInt (IntKind.bits .u64) y2 &&& BitVec.ofInt (IntKind.bits .u64) (IntKind.wrap .u64 (a4 - 1))).toNat))) - a2))))) z)) (dnat (IntKind.wrap .i64 (a1 + (IntKind.wrap .i64 ((IntKind.wrap .i64 (IntKind.wrap .u64 ((BitVec.ofInt (IntKind.bits .u64) y2 &&& BitVec.ofInt (IntKind.bits .u64) (IntKind.wrap .u64 (a4 - 1))).toNat))) - a2))))) (dget a0 (dnat a5) z)), a1, a2, y1, a4, (IntKind.wrap .i64 (a5 + 1)), ()))
    | false => match idx a0 (IntKind.wrap .i64 (a1 + (IntKind.wrap .i64 (IntKind.wrap .u64 ((BitVec.ofInt (IntKind.bits .u64) y2 &&& BitVec.ofInt (IntKind.bits .u64) (IntKind.wrap .u64 (a4 - 1))).toNat))))) with
     | none => none
     | some x7 => match idx a0 a5 with
      | none => none
      | some x8 => match idx a0 a5 with
       | none => none
       | some x9 => match idx (dset a0 (dnat a5) (dget a0 (dnat (IntKind.wrap .i64 (a1 + (IntKind.wrap .i64 (IntKind.wrap .u64 ((BitVec.ofInt (IntKind.bits .u64) y2 &&& BitVec.ofInt (IntKind.bits .u64) (IntKind.wrap .u64 (a4 - 1))).toNat)))))) z)) (IntKind.wrap .i64 (a1 + (IntKind.wrap .i64 (IntKind.wrap .u64 ((BitVec.ofInt (IntKind.bits .u64) y2 &&& BitVec.ofInt (IntKind.bits .u64) (IntKind.wrap .u64 (a4 - 1))).toNat))))) with
        | none => none
        | some x10 => some (.inl ((dset (dset a0 (dnat a5) (dget a0 (dnat (IntKind.wrap .i64 (a1 + (IntKind.wrap .i64 (IntKind.wrap .u64 ((BitVec.ofInt (IntKind.bits .u64) y2 &&& BitVec.ofInt (IntKind.bits .u64) (IntKind.wrap .u64 (a4 - 1))).toNat)))))) z)) (dnat (IntKind.wrap .i64 (a1 + (IntKind.wrap .i64 (IntKind.wrap .u64 ((BitVec.ofInt (IntKind.bits .u64) y2 &&& BitVec.ofInt (IntKind.bits .u64) (IntKind.wrap .u64 (a4 - 1))).toNat)))))) (dget a0 (dnat a5) z)), a1, a2, y1, a4, (IntKind.wrap .i64 (a5 + 1)), ()))
  | false => some (.inr (.inl (a0, ())))
def breakG_d [Lk] {α : Type} (z : α) (c : α × α × Unit → Option (Int × Unit)) : (List α × Int × Int × Unit) → Option ((List α × Unit)) := fun (a0, a1, a2, _) =>
 match (ile 8 (IntKind.wrap .i64 (a2 - a1))) with
 | true => match nextPow ((IntKind.wrap .i64 (a2 - a1)), ()) with
  | none => none
  | some (y0, _) => match quo? .i64 (IntKind.wrap .i64 (a2 - a1)) 4 with
   | none => none
   | some x1 => match iterL (breakG_s0 z c) many (a0, a1, (IntKind.wrap .i64 (a2 - a1)), (IntKind.wrap .u64 (IntKind.wrap .i64 (a2 - a1))), y0, (IntKind.wrap .i64 ((IntKind.wrap .i64 (a1 + (IntKind.wrap .i64 (x1 * 2)))) - 1)), ()) with
    | none => none
    | some r => match r with
     | .inl (o2, _) => some (o2, ())
     | .inr _ => none
 | false => some (a0, ())
def breakG [Lk] {α : Type} (z : α) (c : α × α × Unit → Option (Int × Unit)) (v : (List α × Int × Int × Unit)) : Option ((List α × Unit)) := Lk.f ((breakG_d z c) v)
theorem breakG_eq {α : Type} (z : α) (c : α × α × Unit → Option (Int × Unit)) (v : (List α × Int × Int × Unit)) : (breakG z c) v = (breakG_d z c) v := lock_eq _
def order2G_d [Lk] {α : Type} (z : α) (c : α × α × Unit → Option (Int × Unit)) : (List α × Int × Int × Int × Unit) → Option ((List α × Int × Int × Int × Unit)) := fun (a0, a1, a2, a3, _) =>
 match idx a0 a2 with
 | none => none
 | some x0 => match idx a0 a1 with
  | none => none
  | some x1 => match c ((dget a0 (dnat a2) z), (dget a0 (dnat a1) z), ()) with
   | none => none
   | some (y2, _) => match (ilt y2 0) with
    | true => some (a0, (IntKind.wrap .i64 (a3 + 1)), a2, a1, ())
    | false => some (a0, a3, a1, a2, ())
def order2G [Lk] {α : Type} (z : α) (c : α × α × Unit → Option (Int × Unit)) (v : (List α × Int × Int × Int × Unit)) : Option ((List α × Int × Int × Int × Unit)) := Lk.f ((order2G_d z c) v)
theorem order2G_eq {α : Type} (z : α) (c : α × α × Unit → Option (Int × Unit)) (v : (List α × Int × Int × Int × Unit)) : (order2G z c) v = (order2G_d z c) v := lock_eq _
def medianG_d [Lk] {α : Type} (z : α) (c : α × α × Unit → Option (Int × Unit)) : (List α × Int × Int × Int × Int × Unit) → Option ((List α × Int × Int × Unit)) := fun (a0, a1, a2, a3, a4, _) =>
 match (order2G z c) (a0, a1, a2, a4, ()) with
 | none => none
 | some (y0, y1, y2, y3, _) => match (order2G z c) (y0, y3, a3, y1, ()) with
  | none => none
  | some (y4, y5, y6, y7, _) => match (order2G z c) (y4, y2, y6, y5, ()) with
   | none => none
   | some (y8, y9, y10, y11, _) => some (y8, y9, y11, ())
def medianG [Lk] {α : Type} (z : α) (c : α × α × Unit → Option (Int × Unit)) (v : (List α × Int × Int × Int × Int × Unit)) : Option ((List α × Int × Int × Unit)) := Lk.f ((medianG_d z c) v)
theorem medianG_eq {α : Type} (z : α) (c : α × α × Unit → Option (Int × Unit)) (v : (List α × Int × Int × Int × Int × Unit)) : (medianG z c) v = (medianG_d z c) v := lock_eq _
def medAdjG_d [Lk] {α : Type} (z : α) (c : α × α × Unit → Option (Int × Unit)) : (List α × Int × Int × Unit) → Option ((List α × Int × Int × Unit)) := fun (a0, a1, a2, _) =>
 match (medianG z c) (a0, (IntKind.wrap .i64 (a1 - 1)), a1, (IntKind.wrap .i64 (a1 + 1)), a2, ()) with
 | none => none
 | some (y0, y1, y2, _) => some (y0, y1, y2, ())
def medAdjG [Lk] {α : Type} (z : α) (c : α × α × Unit → Option (Int × Unit)) (v : (List α × Int × Int × Unit)) : Option ((List α × Int × Int × Unit)) := Lk.f ((medAdjG_d z c) v)
theorem medAdjG_eq {α : Type} (z : α) (c : α × α × Unit → Option (Int × Unit)) (v : (List α × Int × Int × Unit)) : (medAdjG z c) v = (medAdjG_d z c) v := lock_eq _
def pivotG_d [Lk] {α : Type} (z : α) (c : α × α × Unit → Option (Int × Unit)) : (List α × Int × Int × Unit) → Option ((List α × Int × Int × Unit)) := fun (a0, a1, a2, _) =>
 match quo? .i64 (IntKind.wrap .i64 (a2 - a1)) 4 with
 | none => none
 | some x0 => match quo? .i64 (IntKind.wrap .i64 (a2 - a1)) 4 with
  | none => none
  | some x1 => match quo? .i64 (IntKind.wrap .i64 (a2 - a1)) 4 with
   | none => none
   | some x2 => match (ile 8 (IntKind.wrap .i64 (a2 - a1))) with
    | true => match (ile 50 (IntKind.wrap .i64 (a2 - a1))) with
     | true => match (medAdjG z c) (a0, (IntKind.wrap .i64 (a1 + (IntKind.wrap .i64 (x0 * 1)))), 0, ()) with
      | none => none
      | some (y3, y4, y5, _) => match (medAdjG z c) (y3, (IntKind.wrap .i64 (a1 + (IntKind.wrap .i64 (x1 * 2)))), y4, ()) with
       | none => none
       | some (y6, y7, y8, _) => match (medAdjG z c) (y6, (IntKind.wrap .i64 (a1 + (IntKind.wrap .i64 (x2 * 3)))), y7, ()) with
        | none => none
        | some (y9, y10, y11, _) => match (medianG z c) (y9, y5, y8, y11, y10, ()) with
         | none => none
         | some (y12, y13, y14, _) => match (ieq y13 0) with
          | true => some (y12, y14, 1, ())
          | false => match (ieq y13 12) with
           | true => some (y12, y14, 2, ())
           | false => some (y12, y14, 0, ())
     | false => match (medianG z c) (a0, (IntKind.wrap .i64 (a1 + (IntKind.wrap .i64 (x0 * 1)))), (IntKind.wrap .i64 (a1 + (IntKind.wrap .i64 (x1 * 2)))), (IntKind.wrap .i64 (a1 + (IntKind.wrap .i64 (x2 * 3)))), 0, ()) with
      | none => none
      | some (y15, y16, y17, _) => match (ieq y16 0) with
       | true => some (y15, y17, 1, ())
       | false => match (ieq y16 12) with
        | true => some (y15, y17, 2, ())
        | false => some (y15, y17, 0, ())
    | false => match (ieq 0 0) with
     | true => some (a0, (IntKind.wrap .i64 (a1 + (IntKind.wrap .i64 (x1 * 2)))), 1, ())
     | false => match (ieq 0 12) with
      | true => some (a0, (IntKind.wrap .i64 (a1 + (IntKind.wrap .i64 (x1 * 2)))), 2, ())
      | false => some (a0, (IntKind.wrap .i64 (a1 + (IntKind.wrap .i64 (x1 * 2)))), 0, ())
def pivotG [Lk] {α : Type} (z : α) (c : α × α × Unit → Option (Int × Unit)) (v : (List α × Int × Int × Unit)) : Option ((List α × Int × Int × Unit)) := Lk.f ((pivotG_d z c) v)
theorem pivotG_eq {α : Type} (z : α) (c : α × α × Unit → Option (Int × Unit)) (v : (List α × Int × Int × Unit)) : (pivotG z c) v = (pivotG_d z c) v := lock_eq _
def revG_s0 [Lk] {α : Type} (z : α) (c : α × α × Unit → Option (Int × Unit)) : (List α × Int × Int × Unit) → Option ((List α × Int × Int × Unit) ⊕ (List α × Unit) ⊕ Unit) := fun (a0, a1, a2, _) =>
 match (ilt a1 a2) with
 | true => match idx a0 a2 with
  | none => none
  | some x0 => match idx a0 a1 with
   | none => none
   | some x1 => match idx a0 a1 with
    | none => none
    | some x2 => match idx (dset a0 (dnat a1) (dget a0 (dnat a2) z)) a2 with
     | none => none
     | some x3 => some (.inl ((dset (dset a0 (dnat a1) (dget a0 (dnat a2) z)) (dnat a2) (dget a0 (dnat a1) z)), (IntKind.wrap .i64 (a1 + 1)), (IntKind.wrap .i64 (a2 - 1)), ()))
 | false => some (.inr (.inl (a0, ())))
def revG_d [Lk] {α : Type} (z : α) (c : α × α × Unit → Option (Int × Unit)) : (List α × Int × Int × Unit) → Option ((List α × Unit)) := fun (a0, a1, a2, _) =>
 match iterL (revG_s0 z c) many (a0, a1, (IntKind.wrap .i64 (a2 - 1)), ()) with
 | none => none
 | some r => match r with
  | .inl (o0, _) => some (o0, ())
  | .inr _ => none
def revG [Lk] {α : Type} (z : α) (c : α × α × Unit → Option (Int × Unit)) (v : (List α × Int × Int × Unit)) : Option ((List α × Unit)) := Lk.f ((revG_d z c) v)
theorem revG_eq {α : Type} (z : α) (c : α × α × Unit → Option (Int × Unit)) (v : (List α × Int × Int × Unit)) : (revG z c) v = (revG_d z c) v := lock_eq _
def partInsG_s3 [Lk] {α : Type} (z : α) (c : α × α × Unit → Option (Int × Unit)) : (List α × Int × Int × Int × Int × Int × Unit) → Option ((List α × Int × Int × Int × Int × Int × Unit) ⊕ (List α × Int × Int × Int × Int × Unit) ⊕ Unit) := fun (a0, a1, a2, a3, a4, a5, _) =>
 match (ilt a5 a2) with
 | true => match idx a0 a5 with
  | none => none
  | some x0 => match idx a0 (IntKind.wrap .i64 (a5 - 1)) with
   | none => none
   | some x1 => match c ((dget a0 (dnat a5) z), (dget a0 (dnat (IntKind.wrap .i64 (a5 - 1))) z), ()) with
    | none => none
    | some (y2, _) => match (!(ilt y2 0)) with
     | true => some (.inr (.inl (a0, a1, a2, a3, a4, ())))
     | false => match idx a0 (IntKind.wrap .i64 (a5 - 1)) with
      | none => none
      | some x3 => match idx a0 a5 with
       | none => none
       | some x4 => match idx a0 a5 with
        | none => none
        | some x5 => match idx (dset a0 (dnat a5) (dget a0 (dnat (IntKind.wrap .i64 (a5 - 1))) z)) (IntKind.wrap .i64 (a5 - 1)) with
         | none => none
         | some x6 => some (.inl ((dset (dset a0 (dnat a5) (dget a0 (dnat (IntKind.wrap .i64 (a5 - 1))) z)) (dnat (IntKind.wrap .i64 (a5 - 1))) (dget a0 (dnat a5) z)), a1, a2, a3, a4, (IntKind.wrap .i64 (a5 + 1)), ()))
 | false => some (.inr (.inl (a0, a1, a2, a3, a4, ())))
def partInsG_s2 [Lk] {α : Type} (z : α) (c : α × α × Unit → Option (Int × Unit)) : (List α × Int × Int × Int × Int × Int × Unit) → Option ((List α × Int × Int × Int × Int × Int × Unit) ⊕ (List α × Int × Int × Int × Int × Unit) ⊕ Unit) := fun (a0, a1, a2, a3, a4, a5, _) =>
 match (ile 1 a5) with
 | true => match idx a0 a5 with
  | none => none
  | some x0 => match idx a0 (IntKind.wrap .i64 (a5 - 1)) with
   | none => none
   | some x1 => match c ((dget a0 (dnat a5) z), (dget a0 (dnat (IntKind.wrap .i64 (a5 - 1))) z), ()) with
    | none => none
    | some (y2, _) => match (!(ilt y2 0)) with
     | true => some (.inr (.inl (a0, a1, a2, a3, a4, ())))
     | false => match idx a0 (IntKind.wrap .i64 (a5 - 1)) with
      | none => none
      | some x3 => match idx a0 a5 with
       | none => none
       | some x4 => match idx a0 a5 with
        | none => none
        | some x5 => match idx (dset a0 (dnat a5) (dget a0 (dnat (IntKind.wrap .i64 (a5 - 1))) z)) (IntKind.wrap .i64 (a5 - 1)) with
         | none => none
         | some x6 => some (.inl ((dset (dset a0 (dnat a5) (dget a0 (dnat (IntKind.wrap .i64 (a5 - 1))) z)) (dnat (IntKind.wrap .i64 (a5 - 1))) (dget a0 (dnat a5) z)), a1, a2, a3, a4, (IntKind.wrap .i64 (a5 - 1)), ()))
 | false => some (.inr (.inl (a0, a1, a2, a3, a4, ())))
def partInsG_s1 [Lk] {α : Type} (z : α) (c : α × α × Unit → Option (Int × Unit)) : (List α × Int × Int × Int × Int × Unit) → Option ((List α × Int × Int × Int × Int × Unit) ⊕ (List α × Int × Int × Int × Int × Unit) ⊕ Unit) := fun (a0, a1, a2, a3, a4, _) =>
 match (ilt a3 a2) with
 | true => match idx a0 a3 with
  | none => none
  | some x0 => match idx a0 (IntKind.wrap .i64 (a3 - 1)) with
   | none => none
   | some x1 => match c ((dget a0 (dnat a3) z), (dget a0 (dnat (IntKind.wrap .i64 (a3 - 1))) z), ()) with
    | none => none
    | some (y2, _) => match (!(ilt y2 0)) with
     | true => some (.inl (a0, a1, a2, (IntKind.wrap .i64 (a3 + 1)), a4, ()))
     | false => some (.inr (.inl (a0, a1, a2, a3, a4, ())))
 | false => some (.inr (.inl (a0, a1, a2, a3, a4, ())))
def partInsG_s0 [Lk] {α : Type} (z : α) (c : α × α × Unit → Option (Int × Unit)) : (List α × Int × Int × Int × Int × Unit) → Option ((List α × Int × Int × Int × Int × Unit) ⊕ (List α × Bool × Unit) ⊕ (List α × Unit) ⊕ Unit) := fun (a0, a1, a2, a3, a4, _) =>
 match (ilt a4 5) with
 | true => match iterL (partInsG_s1 z c) many (a0, a1, a2, a3, a4, ()) with
  | none => none
  | some r => match r with
   | .inl (o0, o1, o2, o3, o4, _) => match (ieq o3 o2) with
    | true => some (.inr (.inl (o0, true, ())))
    | false => match (ilt (IntKind.wrap .i64 (o2 - o1)) 50) with
     | true => some (.inr (.inl (o0, false, ())))
     | false => match idx o0 (IntKind.wrap .i64 (o3 - 1)) with
      | none => none
      | some x5 => match idx o0 o3 with
       | none => none
       | some x6 => match idx o0 o3 with
        | none => none
        | some x7 => match idx (dset o0 (dnat o3) (dget o0 (dnat (IntKind.wrap .i64 (o3 - 1))) z)) (IntKind.wrap .i64 (o3 - 1)) with
         | none => none
         | some x8 => match (ile 2 (IntKind.wrap .i64 (o3 - o1))) with
          | true => match iterL (partInsG_s2 z c) many ((dset (dset o0 (dnat o3) (dget o0 (dnat (IntKind.wrap .i64 (o3 - 1))) z)) (dnat (IntKind.wrap .i64 (o3 - 1))) (dget o0 (dnat o3) z)), o1, o2, o3, o4, (IntKind.wrap .i64 (o3 - 1)), ()) with
           | none => none
           | some r => match r with
            | .inl (o9, o10, o11, o12, o13, _) => match (ile 2 (IntKind.wrap .i64 (o11 - o12))) with
             | true => match iterL (partInsG_s3 z c) many (o9, o10, o11, o12, o13, (IntKind.wrap .i64 (o12 + 1)), ()) with
              | none => none
              | some r => match r with
               | .inl (o14, o15, o16, o17, o18, _) => some (.inl (o14, o15, o16, o17, (IntKind.wrap .i64 (o18 + 1)), ()))
               | .inr _ => none
             | false => some (.inl (o9, o10, o11, o12, (IntKind.wrap .i64 (o13 + 1)), ()))
            | .inr _ => none
          | false => match (ile 2 (IntKind.wrap .i64 (o2 - o3))) with
           | true => match iterL (partInsG_s3 z c) many ((dset (dset o0 (dnat o3) (dget o0 (dnat (IntKind.wrap .i64 (o3 - 1))) z)) (dnat (IntKind.wrap .i64 (o3 - 1))) (dget o0 (dnat o3) z)), o1, o2, o3, o4, (IntKind.wrap .i64 (o3 + 1)), ()) with
            | none => none
            | some r => match r with
             | .inl (o19, o20, o21, o22, o23, _) => some (.inl (o19, o20, o21, o22, (IntKind.wrap .i64 (o23 + 1)), ()))
             | .inr _ => none
           | false => some (.inl ((dset (dset o0 (dnat o3) (dget o0 (dnat (IntKind.wrap .i64 (o3 - 1))) z)) (dnat (IntKind.wrap .i64 (o3 - 1))) (dget o0 (dnat o3) z)), o1, o2, o3, (IntKind.wrap .i64 (o4 + 1)), ()))
   | .inr _ => none
 | false => some (.inr (.inr (.inl (a0, ()))))
def partInsG_d [Lk] {α : Type} (z : α) (c : α × α × Unit → Option (Int × Unit)) : (List α × Int × Int × Unit) → Option ((List α × Bool × Unit)) := fun (a0, a1, a2, _) =>
 match iterL (partInsG_s0 z c) many (a0, a1, a2, (IntKind.wrap .i64 (a1 + 1)), 0, ()) with
 | none => none
 | some r => match r with
  | .inl (o0, o1, _) => some (o0, o1, ())
  | .inr r => match r with
   | .inl (o2, _) => some (o2, false, ())
   | .inr _ => none
def partInsG [Lk] {α : Type} (z : α) (c : α × α × Unit → Option (Int × Unit)) (v : (List α × Int × Int × Unit)) : Option ((List α × Bool × Unit)) := Lk.f ((partInsG_d z c) v)
theorem partInsG_eq {α : Type} (z : α) (c : α × α × Unit → Option (Int × Unit)) (v : (List α × Int × Int × Unit)) : (partInsG z c) v = (partInsG_d z c) v := lock_eq _
def partEqG_s2 [Lk] {α : Type} (z : α) (c : α × α × Unit → Option (Int × Unit)) : (List α × Int × Int × Int × Unit) → Option ((List α × Int × Int × Int × Unit) ⊕ (List α × Int × Int × Int × Unit) ⊕ Unit) := fun (a0, a1, a2, a3, _) =>
 match (ile a2 a3) with
 | true => match idx a0 a1 with
  | none => none
  | some x0 => match idx a0 a3 with
   | none => none
   | some x1 => match c ((dget a0 (dnat a1) z), (dget a0 (dnat a3) z), ()) with
    | none => none
    | some (y2, _) => match (ilt y2 0) with
     | true => some (.inl (a0, a1, a2, (IntKind.wrap .i64 (a3 - 1)), ()))
     | false => some (.inr (.inl (a0, a1, a2, a3, ())))
 | false => some (.inr (.inl (a0, a1, a2, a3, ())))
def partEqG_s1 [Lk] {α : Type} (z : α) (c : α × α × Unit → Option (Int × Unit)) : (List α × Int × Int × Int × Unit) → Option ((List α × Int × Int × Int × Unit) ⊕ (List α × Int × Int × Int × Unit) ⊕ Unit) := fun (a0, a1, a2, a3, _) =>
 match (ile a2 a3) with
 | true => match idx a0 a1 with
  | none => none
  | some x0 => match idx a0 a2 with
   | none => none
   | some x1 => match c ((dget a0 (dnat a1) z), (dget a0 (dnat a2) z), ()) with
    | none => none
    | some (y2, _) => match (!(ilt y2 0)) with
     | true => some (.inl (a0, a1, (IntKind.wrap .i64 (a2 + 1)), a3, ()))
     | false => some (.inr (.inl (a0, a1, a2, a3, ())))
 | false => some (.inr (.inl (a0, a1, a2, a3, ())))
def partEqG_s0 [Lk] {α : Type} (z : α) (c : α × α × Unit → Option (Int × Unit)) : (List α × Int × Int × Int × Unit) → Option ((List α × Int × Int × Int × Unit) ⊕ (List α × Int × Unit) ⊕ Unit) := fun (a0, a1, a2, a3, _) =>
 match iterL (partEqG_s1 z c) many (a0, a1, a2, a3, ()) with
 | none => none
 | some r => match r with
  | .inl (o0, o1, o2, o3, _) => match iterL (partEqG_s2 z c) many (o0, o1, o2, o3, ()) with
   | none => none
   | some r => match r with
    | .inl (o4, o5, o6, o7, _) => match (ilt o7 o6) with
     | true => some (.inr (.inl (o4, o6, ())))
     | false => match idx o4 o7 with
      | none => none
      | some x8 => match idx o4 o6 with
       | none => none
       | some x9 => match idx o4 o6 with
        | none => none
        | some x10 => match idx (dset o4 (dnat o6) (dget o4 (dnat o7) z)) o7 with
         | none => none
         | some x11 => some (.inl ((dset (dset o4 (dnat o6) (dget o4 (dnat o7) z)) (dnat o7) (dget o4 (dnat o6) z)), o5, (IntKind.wrap .i64 (o6 + 1)), (IntKind.wrap .i64 (o7 - 1)), ()))
    | .inr _ => none
  | .inr _ => none
def partEqG_d [Lk] {α : Type} (z : α) (c : α × α × Unit → Option (Int × Unit)) : (List α × Int × Int × Int × Unit) → Option ((List α × Int × Unit)) := fun (a0, a1, a2, a3, _) =>
 match idx a0 a3 with
 | none => none
 | some x0 => match idx a0 a1 with
  | none => none
  | some x1 => match idx a0 a1 with
   | none => none
   | some x2 => match idx (dset a0 (dnat a1) (dget a0 (dnat a3) z)) a3 with
    | none => none
    | some x3 => match iterL (partEqG_s0 z c) many ((dset (dset a0 (dnat a1) (dget a0 (dnat a3) z)) (dnat a3) (dget a0 (dnat a1) z)), a1, (IntKind.wrap .i64 (a1 + 1)), (IntKind.wrap .i64 (a2 - 1)), ()) with
     | none => none
     | some r => match r with
      | .inl (o4, o5, _) => some (o4, o5, ())
      | .inr _ => none
def partEqG [Lk] {α : Type} (z : α) (c : α × α × Unit → Option (Int × Unit)) (v : (List α × Int × Int × Int × Unit)) : Option ((List α × Int × Unit)) := Lk.f ((partEqG_d z c) v)
theorem partEqG_eq {α : Type} (z : α) (c : α × α × Unit → Option (Int × Unit)) (v : (List α × Int × Int × Int × Unit)) : (partEqG z c) v = (partEqG_d z c) v := lock_eq _
def partG_s4 [Lk] {α : Type} (z : α) (c : α × α × Unit → Option (Int × Unit)) : (List α × Int × Int × Int × Unit) → Option ((List α × Int × Int × Int × Unit) ⊕ (List α × Int × Int × Int × Unit) ⊕ Unit) := fun (a0, a1, a2, a3, _) =>
 match (ile a2 a3) with
 | true => match idx a0 a3 with
  | none => none
  | some x0 => match idx a0 a1 with
   | none => none
   | some x1 => match c ((dget a0 (dnat a3) z), (dget a0 (dnat a1) z), ()) with
    | none => none
    | some (y2, _) => match (!(ilt y2 0)) with
     | true => some (.inl (a0, a1, a2, (IntKind.wrap .i64 (a3 - 1)), ()))
     | false => some (.inr (.inl (a0, a1, a2, a3, ())))
 | false => some (.inr (.inl (a0, a1, a2, a3, ())))
def partG_s3 [Lk] {α : Type} (z : α) (c : α × α × Unit → Option (Int × Unit)) : (List α × Int × Int × Int × Unit) → Option ((List α × Int × Int × Int × Unit) ⊕ (List α × Int × Int × Int × Unit) ⊕ Unit) := fun (a0, a1, a2, a3, _) =>
 match (ile a2 a3) with
 | true => match idx a0 a2 with
  | none => none
  | some x0 => match idx a0 a1 with
   | none => none
   | some x1 => match c ((dget a0 (dnat a2) z), (dget a0 (dnat a1) z), ()) with
    | none => none
    | some (y2, _) => match (ilt y2 0) with
     | true => some (.inl (a0, a1, (IntKind.wrap .i64 (a2 + 1)), a3, ()))
     | false => some (.inr (.inl (a0, a1, a2, a3, ())))
 | false => some (.inr (.inl (a0, a1, a2, a3, ())))
def partG_s2 [Lk] {α : Type} (z : α) (c : α × α × Unit → Option (Int × Unit)) : (List α × Int × Int × Int × Unit) → Option ((List α × Int × Int × Int × Unit) ⊕ (List α × Int × Int × Unit) ⊕ Unit) := fun (a0, a1, a2, a3, _) =>
 match iterL (partG_s3 z c) many (a0, a1, a2, a3, ()) with
 | none => none
 | some r => match r with
  | .inl (o0, o1, o2, o3, _) => match iterL (partG_s4 z c) many (o0, o1, o2, o3, ()) with
   | none => none
   | some r => match r with
    | .inl (o4, o5, o6, o7, _) => match (ilt o7 o6) with
     | true => some (.inr (.inl (o4, o5, o7, ())))
     | false => match idx o4 o7 with
      | none => none
      | some x8 => match idx o4 o6 with
       | none => none
       | some x9 => match idx o4 o6 with
        | none => none
        | some x10 => match idx (dset o4 (dnat o6) (dget o4 (dnat o7) z)) o7 with
         | none => none
         | some x11 => some (.inl ((dset (dset o4 (dnat o6) (dget o4 (dnat o7) z)) (dnat o7) (dget o4 (dnat o6) z)), o5, (IntKind.wrap .i64 (o6 + 1)), (IntKind.wrap .i64 (o7 - 1)), ()))
    | .inr _ => none
  | .inr _ => none
def partG_s1 [Lk] {α : Type} (z : α) (c : α × α × Unit → Option (Int × Unit)) : (List α × Int × Int × Int × Unit) → Option ((List α × Int × Int × Int × Unit) ⊕ (List α × Int × Int × Int × Unit) ⊕ Unit) := fun (a0, a1, a2, a3, _) =>
 match (ile a2 a3) with
 | true => match idx a0 a3 with
  | none => none
  | some x0 => match idx a0 a1 with
   | none => none
   | some x1 => match c ((dget a0 (dnat a3) z), (dget a0 (dnat a1) z), ()) with
    | none => none
    | some (y2, _) => match (!(ilt y2 0)) with
     | true => some (.inl (a0, a1, a2, (IntKind.wrap .i64 (a3 - 1)), ()))
     | false => some (.inr (.inl (a0, a1, a2, a3, ())))
 | false => some (.inr (.inl (a0, a1, a2, a3, ())))
def partG_s0 [Lk] {α : Type} (z : α) (c : α × α × Unit → Option (Int × Unit)) : (List α × Int × Int × Int × Unit) → Option ((List α × Int × Int × Int × Unit) ⊕ (List α × Int × Int × Int × Unit) ⊕ Unit) := fun (a0, a1, a2, a3, _) =>
 match (ile a2 a3) with
 | true => match idx a0 a2 with
  | none => none
  | some x0 => match idx a0 a1 with
   | none => none
   | some x1 => match c ((dget a0 (dnat a2) z), (dget a0 (dnat a1) z), ()) with
    | none => none
    | some (y2, _) => match (ilt y2 0) with
     | true => some (.inl (a0, a1, (IntKind.wrap .i64 (a2 + 1)), a3, ()))
     | false => some (.inr (.inl (a0, a1, a2, a3, ())))
 | false => some (.inr (.inl (a0, a1, a2, a3, ())))
def partG_d [Lk] {α : Type} (z : α) (c : α × α × Unit → Option (Int × Unit)) : (List α × Int × Int × Int × Unit) → Option ((List α × Int × Bool × Unit)) := fun (a0, a1, a2, a3, _) =>
 match idx a0 a3 with
 | none => none
 | some x0 => match idx a0 a1 with
  | none => none
  | some x1 => match idx a0 a1 with
   | none => none
   | some x2 => match idx (dset a0 (dnat a1) (dget a0 (dnat a3) z)) a3 with
    | none => none
    | some x3 => match iterL (partG_s0 z c) many ((dset (dset a0 (dnat a1) (dget a0 (dnat a3) z)) (dnat a3) (dget a0 (dnat a1) z)), a1, (IntKind.wrap .i64 (a1 + 1)), (IntKind.wrap .i64 (a2 - 1)), ()) with
     | none => none
     | some r => match r with
      | .inl (o4, o5, o6, o7, _) => match iterL (partG_s1 z c) many (o4, o5, o6, o7, ()) with
       | none => none
       | some r => match r with
        | .inl (o8, o9, o10, o11, _) => match (ilt o11 o10) with
         | true => match idx o8 o9 with
          | none => none
          | some x12 => match idx o8 o11 with
           | none => none
           | some x13 => match idx o8 o11 with
            | none => none
            | some x14 => match idx (dset o8 (dnat o11) (dget o8 (dnat o9) z)) o9 with
             | none => none
             | some x15 => some ((dset (dset o8 (dnat o11) (dget o8 (dnat o9) z)) (dnat o9) (dget o8 (dnat o11) z)), o11, true, ())
         | false => match idx o8 o11 with
          | none => none
          | some x16 => match idx o8 o10 with
           | none => none
           | some x17 => match idx o8 o10 with
            | none => none
            | some x18 => match idx (dset o8 (dnat o10) (dget o8 (dnat o11) z)) o11 with
             | none => none
             | some x19 => match iterL (partG_s2 z c) many ((dset (dset o8 (dnat o10) (dget o8 (dnat o11) z)) (dnat o11) (dget o8 (dnat o10) z)), o9, (IntKind.wrap .i64 (o10 + 1)), (IntKind.wrap .i64 (o11 - 1)), ()) with
              | none => none
              | some r => match r with
               | .inl (o20, o21, o22, _) => match idx o20 o21 with
                | none => none
                | some x23 => match idx o20 o22 with
                 | none => none
                 | some x24 => match idx o20 o22 with
                  | none => none
                  | some x25 => match idx (dset o20 (dnat o22) (dget o20 (dnat o21) z)) o21 with
                   | none => none
                   | some x26 => some ((dset (dset o20 (dnat o22) (dget o20 (dnat o21) z)) (dnat o21) (dget o20 (dnat o22) z)), o22, false, ())
               | .inr _ => none
        | .inr _ => none
      | .inr _ => none
def partG [Lk] {α : Type} (z : α) (c : α × α × Unit → Option (Int × Unit)) (v : (List α × Int × Int × Int × Unit)) : Option ((List α × Int × Bool × Unit)) := Lk.f ((partG_d z c) v)
theorem partG_eq {α : Type} (z : α) (c : α × α × Unit → Option (Int × Unit)) (v : (List α × Int × Int × Int × Unit)) : (partG z c) v = (partG_d z c) v := lock_eq _
def pdqG_t [Lk] {α : Type} (z : α) (c : α × α × Unit → Option (Int × Unit)) (self : (List α × Int × Int × Int × Unit) → Option ((List α × Unit))) (y7 : List α) (a1 a2 p l : Int) (a4 a5 : Bool) : Option ((List α × Int × Int × Int × Bool × Bool × Unit) ⊕ (List α × Unit) ⊕ Unit) :=
 match (ilt 0 a1) with
 | true => match idx y7 (IntKind.wrap .i64 (a1 - 1)) with
  | none => none
  | some x9 => match idx y7 p with
   | none => none
   | some x10 => match c ((dget y7 (dnat (IntKind.wrap .i64 (a1 - 1))) z), (dget y7 (dnat p) z), ()) with
    | none => none
    | some (y11, _) => match (!(ilt y11 0)) with
     | true => match (partEqG z c) (y7, a1, a2, p, ()) with
      | none => none
      | some (y12, y13, _) => some (.inl (y12, y13, a2, l, a4, a5, ()))
     | false => match (partG z c) (y7, a1, a2, p, ()) with
      | none => none
      | some (y14, y15, y16, _) => match quo? .i64 (IntKind.wrap .i64 (a2 - a1)) 8 with
       | none => none
       | some x17 => match (ilt (IntKind.wrap .i64 (y15 - a1)) (IntKind.wrap .i64 (a2 - y15))) with
        | true => match self (y14, a1, y15, l, ()) with
         | none => none
         | some (y18, _) => some (.inl (y18, (IntKind.wrap .i64 (y15 + 1)), a2, l, (ile x17 (IntKind.wrap .i64 (y15 - a1))), y16, ()))
        | false => match self (y14, (IntKind.wrap .i64 (y15 + 1)), a2, l, ()) with
         | none => none
         | some (y19, _) => some (.inl (y19, a1, y15, l, (ile x17 (IntKind.wrap .i64 (a2 - y15))), y16, ()))
 | false => match (partG z c) (y7, a1, a2, p, ()) with
  | none => none
  | some (y20, y21, y22, _) => match quo? .i64 (IntKind.wrap .i64 (a2 - a1)) 8 with
   | none => none
   | some x23 => match (ilt (IntKind.wrap .i64 (y21 - a1)) (IntKind.wrap .i64 (a2 - y21))) with
    | true => match self (y20, a1, y21, l, ()) with
     | none => none
     | some (y24, _) => some (.inl (y24, (IntKind.wrap .i64 (y21 + 1)), a2, l, (ile x23 (IntKind.wrap .i64 (y21 - a1))), y22, ()))
    | false => match self (y20, (IntKind.wrap .i64 (y21 + 1)), a2, l, ()) with
     | none => none
     | some (y25, _) => some (.inl (y25, a1, y21, l, (ile x23 (IntKind.wrap .i64 (a2 - y21))), y22, ()))
def pdqG_e [Lk] {α : Type} (z : α) (c : α × α × Unit → Option (Int × Unit)) (self : (List α × Int × Int × Int × Unit) → Option ((List α × Unit))) (y6 : List α) (a1 a2 p h l : Int) (a4 a5 : Bool) : Option ((List α × Int × Int × Int × Bool × Bool × Unit) ⊕ (List α × Unit) ⊕ Unit) :=
 match a4 with
 | true => match a5 with
  | true => match (ieq h 1) with
   | true => match (partInsG z c) (y6, a1, a2, ()) with
    | none => none
    | some (y7, y8, _) => match y8 with
     | true => some (.inr (.inl (y7, ())))
     | false => (pdqG_t z c) self y7 a1 a2 p l a4 a5
   | false => (pdqG_t z c) self y6 a1 a2 p l a4 a5
  | false => (pdqG_t z c) self y6 a1 a2 p l a4 a5
 | false => (pdqG_t z c) self y6 a1 a2 p l a4 a5
def pdqG_m [Lk] {α : Type} (z : α) (c : α × α × Unit → Option (Int × Unit)) (self : (List α × Int × Int × Int × Unit) → Option ((List α × Unit))) (y2 : List α) (a1 a2 l : Int) (a4 a5 : Bool) : Option ((List α × Int × Int × Int × Bool × Bool × Unit) ⊕ (List α × Unit) ⊕ Unit) :=
 match (pivotG z c) (y2, a1, a2, ()) with
 | none => none
 | some (y3, y4, y5, _) => match (ieq y5 2) with
  | true => match (revG z c) (y3, a1, a2, ()) with
   | none => none
   | some (y6, _) => (pdqG_e z c) self y6 a1 a2 (IntKind.wrap .i64 ((IntKind.wrap .i64 (a2 - 1)) - (IntKind.wrap .i64 (y4 - a1)))) 1 l a4 a5
  | false => (pdqG_e z c) self y3 a1 a2 y4 y5 l a4 a5
def pdqG_s0 [Lk] {α : Type} (z : α) (c : α × α × Unit → Option (Int × Unit)) (self : (List α × Int × Int × Int × Unit) → Option ((List α × Unit))) : (List α × Int × Int × Int × Bool × Bool × Unit) → Option ((List α × Int × Int × Int × Bool × Bool × Unit) ⊕ (List α × Unit) ⊕ Unit) := fun (a0, a1, a2, a3, a4, a5, _) =>
 match (ile (IntKind.wrap .i64 (a2 - a1)) 12) with
 | true => match (insG z c) (a0, a1, a2, ()) with
  | none => none
  | some (y0, _) => some (.inr (.inl (y0, ())))
 | false => match (ieq a3 0) with
  | true => match (heapG z c) (a0, a1, a2, ()) with
   | none => none
   | some (y1, _) => some (.inr (.inl (y1, ())))
  | false => match (!a4) with
   | true => match (breakG z c) (a0, a1, a2, ()) with
    | none => none
    | some (y2, _) => (pdqG_m z c) self y2 a1 a2 (IntKind.wrap .i64 (a3 - 1)) a4 a5
   | false => (pdqG_m z c) self a0 a1 a2 a3 a4 a5
def pdqG_d [Lk] {α : Type} (z : α) (c : α × α × Unit → Option (Int × Unit)) (self : (List α × Int × Int × Int × Unit) → Option ((List α × Unit))) : (List α × Int × Int × Int × Unit) → Option ((List α × Unit)) := fun (a0, a1, a2, a3, _) =>
 match iterL ((pdqG_s0 z c) self) many (a0, a1, a2, a3, true, true, ()) with
 | none => none
 | some r => match r with
  | .inl (o0, _) => some (o0, ())
  | .inr _ => none
def pdqG_f [Lk] {α : Type} (z : α) (c : α × α × Unit → Option (Int × Unit)) : Nat → (List α × Int × Int × Int × Unit) → Option ((List α × Unit))
 | 0, _ => none
 | n + 1, v => (pdqG_d z c) ((pdqG_f z c) n) v
def pdqG [Lk] {α : Type} (z : α) (c : α × α × Unit → Option (Int × Unit)) (v : (List α × Int × Int × Int × Unit)) : Option ((List α × Unit)) := Lk.f ((pdqG_f z c) 100 v)
theorem pdqG_eq {α : Type} (z : α) (c : α × α × Unit → Option (Int × Unit)) (v : (List α × Int × Int × Int × Unit)) : (pdqG z c) v = (pdqG_f z c) 100 v := lock_eq _
def sortG_d [Lk] {α : Type} (z : α) (c : α × α × Unit → Option (Int × Unit)) : (List α × Unit) → Option ((List α × Unit)) := fun (a0, _) =>
 match bitsLen ((IntKind.wrap .u64 (dlen a0)), ()) with
 | none => none
 | some (y0, _) => match (pdqG z c) (a0, 0, (dlen a0), y0, ()) with
  | none => none
  | some (y1, _) => some (y1, ())
def sortG [Lk] {α : Type} (z : α) (c : α × α × Unit → Option (Int × Unit)) (v : (List α × Unit)) : Option ((List α × Unit)) := Lk.f ((sortG_d z c) v)
theorem sortG_eq {α : Type} (z : α) (c : α × α × Unit → Option (Int × Unit)) (v : (List α × Unit)) : (sortG z c) v = (sortG_d z c) v := lock_eq _
-- slices.insertionSortCmpFunc[[]int]
abbrev insL_i : Items := [(.tmp 0, .own 55 (.slice (.int .i64))), (.tmp 1, .di), (.tmp 2, .di), (.tmp 3, .clo 204 [])]
abbrev insL_o : Items := [(.obj 0, .own 55 (.slice (.int .i64)))]
abbrev insL_r : List RS := []
abbrev insL_i1 : Items := [(.obj 0, .own 55 (.slice (.int .i64))), (.tmp 0, .own' 0), (.tmp 1, .di), (.tmp 2, .di), (.tmp 3, .clo 204 []), (.tmp 8, .di), (.tmp 9, .di)]
abbrev insL_o1 : Outs := [(.exit 2, [(.obj 0, .own 55 (.slice (.int .i64))), (.tmp 0, .own' 0), (.tmp 1, .di), (.tmp 2, .di), (.tmp 3, .clo 204 []), (.tmp 8, .di)])]
def insL_s1 [Lk] : (List (List Int) × Int × Int × Int × Int × Unit) → Option ((List (List Int) × Int × Int × Int × Int × Unit) ⊕ (List (List Int) × Int × Int × Int × Unit) ⊕ Unit) := insG_s1 (([] : List (Int)) : (List Int)) with1
abbrev insL_i0 : Items := [(.obj 0, .own 55 (.slice (.int .i64))), (.tmp 0, .own' 0), (.tmp 1, .di), (.tmp 2, .di), (.tmp 3, .clo 204 []), (.tmp 8, .di)]
abbrev insL_o0 : Outs := [(.exit 0, [(.obj 0, .own 55 (.slice (.int .i64)))])]
def insL_s0 [Lk] : (List (List Int) × Int × Int × Int × Unit) → Option ((List (List Int) × Int × Int × Int × Unit) ⊕ (List (List Int) × Unit) ⊕ Unit) := insG_s0 (([] : List (Int)) : (List Int)) with1
def insL_d [Lk] : (List (List Int) × Int × Int × Unit) → Option ((List (List Int) × Unit)) := insG_d (([] : List (Int)) : (List Int)) with1
def insL [Lk] (v : (List (List Int) × Int × Int × Unit)) : Option ((List (List Int) × Unit)) := insG (([] : List (Int)) : (List Int)) with1 v
theorem insL_eq v : insL v = insL_d v := lock_eq _
-- slices.siftDownCmpFunc[[]int]
abbrev siftL_i : Items := [(.tmp 0, .own 55 (.slice (.int .i64))), (.tmp 1, .di), (.tmp 2, .di), (.tmp 3, .di), (.tmp 4, .clo 204 [])]
abbrev siftL_o : Items := [(.obj 0, .own 55 (.slice (.int .i64)))]
abbrev siftL_r : List RS := []
abbrev siftL_i0 : Items := [(.obj 0, .own 55 (.slice (.int .i64))), (.tmp 0, .own' 0), (.tmp 2, .di), (.tmp 3, .di), (.tmp 4, .clo 204 []), (.tmp 10, .di)]
abbrev siftL_o0 : Outs := [(.exit 0, [(.obj 0, .own 55 (.slice (.int .i64)))]), (.ret, [(.obj 0, .own 55 (.slice (.int .i64)))])]
def siftL_s0 [Lk] : (List (List Int) × Int × Int × Int × Unit) → Option ((List (List Int) × Int × Int × Int × Unit) ⊕ (List (List Int) × Unit) ⊕ (List (List Int) × Unit) ⊕ Unit) := siftG_s0 (([] : List (Int)) : (List Int)) with1
def siftL_d [Lk] : (List (List Int) × Int × Int × Int × Unit) → Option ((List (List Int) × Unit)) := siftG_d (([] : List (Int)) : (List Int)) with1
def siftL [Lk] (v : (List (List Int) × Int × Int × Int × Unit)) : Option ((List (List Int) × Unit)) := siftG (([] : List (Int)) : (List Int)) with1 v
theorem siftL_eq v : siftL v = siftL_d v := lock_eq _
-- slices.heapSortCmpFunc[[]int]
abbrev heapL_i : Items := [(.tmp 0, .own 55 (.slice (.int .i64))), (.tmp 1, .di), (.tmp 2, .di), (.tmp 3, .clo 204 [])]
abbrev heapL_o : Items := [(.obj 0, .own 55 (.slice (.int .i64)))]
abbrev heapL_r : List RS := []
abbrev heapL_i1 : Items := [(.obj 0, .own 55 (.slice (.int .i64))), (.tmp 0, .own' 0), (.tmp 3, .clo 204 []), (.tmp 8, .di), (.tmp 9, .di), (.tmp 12, .di)]
abbrev heapL_o1 : Outs := [(.exit 2, [(.obj 0, .own 55 (.slice (.int .i64)))])]
def heapL_s1 [Lk] : (List (List Int) × Int × Int × Int × Unit) → Option ((List (List Int) × Int × Int × Int × Unit) ⊕ (List (List Int) × Unit) ⊕ Unit) := heapG_s1 (([] : List (Int)) : (List Int)) with1
abbrev heapL_i0 : Items := [(.obj 0, .own 55 (.slice (.int .i64))), (.tmp 0, .own' 0), (.tmp 3, .clo 204 []), (.tmp 8, .di), (.tmp 9, .di), (.tmp 10, .di), (.tmp 11, .di)]
abbrev heapL_o0 : Outs := [(.exit 0, [(.obj 0, .own 55 (.slice (.int .i64))), (.tmp 0, .own' 0), (.tmp 3, .clo 204 []), (.tmp 8, .di), (.tmp 9, .di), (.tmp 10, .di)])]
def heapL_s0 [Lk] : (List (List Int) × Int × Int × Int × Int × Unit) → Option ((List (List Int) × Int × Int × Int × Int × Unit) ⊕ (List (List Int) × Int × Int × Int × Unit) ⊕ Unit) := heapG_s0 (([] : List (Int)) : (List Int)) with1
def heapL_d [Lk] : (List (List Int) × Int × Int × Unit) → Option ((List (List Int) × Unit)) := heapG_d (([] : List (Int)) : (List Int)) with1
def heapL [Lk] (v : (List (List Int) × Int × Int × Unit)) : Option ((List (List Int) × Unit)) := heapG (([] : List (Int)) : (List Int)) with1 v
theorem heapL_eq v : heapL v = heapL_d v := lock_eq _
-- slices.breakPatternsCmpFunc[[]int]
abbrev breakL_i : Items := [(.tmp 0, .own 55 (.slice (.int .i64))), (.tmp 1, .di), (.tmp 2, .di), (.tmp 3, .clo 204 [])]
abbrev breakL_o : Items := [(.obj 0, .own 55 (.slice (.int .i64)))]
abbrev breakL_r : List RS := []
abbrev breakL_i0 : Items := [(.obj 0, .own 55 (.slice (.int .i64))), (.tmp 0, .own' 0), (.tmp 1, .di), (.tmp 8, .di), (.tmp 9, .box 1), (.cell 1 0, .dat (.int .u64)), (.tmp 10, .dat (.int .u64)), (.tmp 11, .di)]
abbrev breakL_o0 : Outs := [(.exit 0, [(.obj 0, .own 55 (.slice (.int .i64)))])]
def breakL_s0 [Lk] : (List (List Int) × Int × Int × Int × Int × Int × Unit) → Option ((List (List Int) × Int × Int × Int × Int × Int × Unit) ⊕ (List (List Int) × Unit) ⊕ Unit) := breakG_s0 (([] : List (Int)) : (List Int)) with1
def breakL_d [Lk] : (List (List Int) × Int × Int × Unit) → Option ((List (List Int) × Unit)) := breakG_d (([] : List (Int)) : (List Int)) with1
def breakL [Lk] (v : (List (List Int) × Int × Int × Unit)) : Option ((List (List Int) × Unit)) := breakG (([] : List (Int)) : (List Int)) with1 v
theorem breakL_eq v : breakL v = breakL_d v := lock_eq _
-- slices.order2CmpFunc[[]int]
abbrev order2L_i : Items := [(.tmp 0, .own 55 (.slice (.int .i64))), (.tmp 1, .di), (.tmp 2, .di), (.tmp 3, .box 1), (.cell 1 0, .di), (.tmp 4, .clo 204 [])]
abbrev order2L_o : Items := [(.obj 0, .own 55 (.slice (.int .i64))), (.obj 1, .box 1), (.cell 1 0, .di), (.tmp 0, .di), (.tmp 1, .di)]
abbrev order2L_r : List RS := [.one, .one]
def order2L_d [Lk] : (List (List Int) × Int × Int × Int × Unit) → Option ((List (List Int) × Int × Int × Int × Unit)) := order2G_d (([] : List (Int)) : (List Int)) with1
def order2L [Lk] (v : (List (List Int) × Int × Int × Int × Unit)) : Option ((List (List Int) × Int × Int × Int × Unit)) := order2G (([] : List (Int)) : (List Int)) with1 v
theorem order2L_eq v : order2L v = order2L_d v := lock_eq _
-- slices.medianCmpFunc[[]int]
abbrev medianL_i : Items := [(.tmp 0, .own 55 (.slice (.int .i64))), (.tmp 1, .di), (.tmp 2, .di), (.tmp 3, .di), (.tmp 4, .box 1), (.cell 1 0, .di), (.tmp 5, .clo 204 [])]
abbrev medianL_o : Items := [(.obj 0, .own 55 (.slice (.int .i64))), (.obj 1, .box 1), (.cell 1 0, .di), (.tmp 0, .di)]
abbrev medianL_r : List RS := [.one]
def medianL_d [Lk] : (List (List Int) × Int × Int × Int × Int × Unit) → Option ((List (List Int) × Int × Int × Unit)) := medianG_d (([] : List (Int)) : (List Int)) with1
def medianL [Lk] (v : (List (List Int) × Int × Int × Int × Int × Unit)) : Option ((List (List Int) × Int × Int × Unit)) := medianG (([] : List (Int)) : (List Int)) with1 v
theorem medianL_eq v : medianL v = medianL_d v := lock_eq _
-- slices.medianAdjacentCmpFunc[[]int]
abbrev medAdjL_i : Items := [(.tmp 0, .own 55 (.slice (.int .i64))), (.tmp 1, .di), (.tmp 2, .box 1), (.cell 1 0, .di), (.tmp 3, .clo 204 [])]
abbrev medAdjL_o : Items := [(.obj 0, .own 55 (.slice (.int .i64))), (.obj 1, .box 1), (.cell 1 0, .di), (.tmp 0, .di)]
abbrev medAdjL_r : List RS := [.one]
def medAdjL_d [Lk] : (List (List Int) × Int × Int × Unit) → Option ((List (List Int) × Int × Int × Unit)) := medAdjG_d (([] : List (Int)) : (List Int)) with1
def medAdjL [Lk] (v : (List (List Int) × Int × Int × Unit)) : Option ((List (List Int) × Int × Int × Unit)) := medAdjG (([] : List (Int)) : (List Int)) with1 v
theorem medAdjL_eq v : medAdjL v = medAdjL_d v := lock_eq _
-- slices.choosePivotCmpFunc[[]int]
abbrev pivotL_i : Items := [(.tmp 0, .own 55 (.slice (.int .i64))), (.tmp 1, .di), (.tmp 2, .di), (.tmp 3, .clo 204 [])]
abbrev pivotL_o : Items := [(.obj 0, .own 55 (.slice (.int .i64))), (.tmp 0, .di), (.tmp 1, .di)]
abbrev pivotL_r : List RS := [.one, .one]
def pivotL_d [Lk] : (List (List Int) × Int × Int × Unit) → Option ((List (List Int) × Int × Int × Unit)) := pivotG_d (([] : List (Int)) : (List Int)) with1
def pivotL [Lk] (v : (List (List Int) × Int × Int × Unit)) : Option ((List (List Int) × Int × Int × Unit)) := pivotG (([] : List (Int)) : (List Int)) with1 v
theorem pivotL_eq v : pivotL v = pivotL_d v := lock_eq _
-- slices.reverseRangeCmpFunc[[]int]
abbrev revL_i : Items := [(.tmp 0, .own 55 (.slice (.int .i64))), (.tmp 1, .di), (.tmp 2, .di), (.tmp 3, .clo 204 [])]
abbrev revL_o : Items := [(.obj 0, .own 55 (.slice (.int .i64)))]
abbrev revL_r : List RS := []
abbrev revL_i0 : Items := [(.obj 0, .own 55 (.slice (.int .i64))), (.tmp 0, .own' 0), (.tmp 8, .di), (.tmp 9, .di)]
abbrev revL_o0 : Outs := [(.exit 0, [(.obj 0, .own 55 (.slice (.int .i64)))])]
def revL_s0 [Lk] : (List (List Int) × Int × Int × Unit) → Option ((List (List Int) × Int × Int × Unit) ⊕ (List (List Int) × Unit) ⊕ Unit) := revG_s0 (([] : List (Int)) : (List Int)) with1
def revL_d [Lk] : (List (List Int) × Int × Int × Unit) → Option ((List (List Int) × Unit)) := revG_d (([] : List (Int)) : (List Int)) with1
def revL [Lk] (v : (List (List Int) × Int × Int × Unit)) : Option ((List (List Int) × Unit)) := revG (([] : List (Int)) : (List Int)) with1 v
theorem revL_eq v : revL v = revL_d v := lock_eq _
-- slices.partialInsertionSortCmpFunc[[]int]
abbrev partInsL_i : Items := [(.tmp 0, .own 55 (.slice (.int .i64))), (.tmp 1, .di), (.tmp 2, .di), (.tmp 3, .clo 204 [])]
abbrev partInsL_o : Items := [(.obj 0, .own 55 (.slice (.int .i64))), (.tmp 0, .dat .bool)]
abbrev partInsL_r : List RS := [.one]
abbrev partInsL_i3 : Items := [(.obj 0, .own 55 (.slice (.int .i64))), (.tmp 0, .own' 0), (.tmp 1, .di), (.tmp 2, .di), (.tmp 3, .clo 204 []), (.tmp 9, .di), (.tmp 10, .di), (.tmp 12, .di)]
abbrev partInsL_o3 : Outs := [(.exit 6, [(.obj 0, .own 55 (.slice (.int .i64))), (.tmp 0, .own' 0), (.tmp 1, .di), (.tmp 2, .di), (.tmp 3, .clo 204 []), (.tmp 9, .di), (.tmp 10, .di)])]
def partInsL_s3 [Lk] : (List (List Int) × Int × Int × Int × Int × Int × Unit) → Option ((List (List Int) × Int × Int × Int × Int × Int × Unit) ⊕ (List (List Int) × Int × Int × Int × Int × Unit) ⊕ Unit) := partInsG_s3 (([] : List (Int)) : (List Int)) with1
abbrev partInsL_i2 : Items := [(.obj 0, .own 55 (.slice (.int .i64))), (.tmp 0, .own' 0), (.tmp 1, .di), (.tmp 2, .di), (.tmp 3, .clo 204 []), (.tmp 9, .di), (.tmp 10, .di), (.tmp 11, .di)]
abbrev partInsL_o2 : Outs := [(.exit 4, [(.obj 0, .own 55 (.slice (.int .i64))), (.tmp 0, .own' 0), (.tmp 1, .di), (.tmp 2, .di), (.tmp 3, .clo 204 []), (.tmp 9, .di), (.tmp 10, .di)])]
def partInsL_s2 [Lk] : (List (List Int) × Int × Int × Int × Int × Int × Unit) → Option ((List (List Int) × Int × Int × Int × Int × Int × Unit) ⊕ (List (List Int) × Int × Int × Int × Int × Unit) ⊕ Unit) := partInsG_s2 (([] : List (Int)) : (List Int)) with1
abbrev partInsL_i1 : Items := [(.obj 0, .own 55 (.slice (.int .i64))), (.tmp 0, .own' 0), (.tmp 1, .di), (.tmp 2, .di), (.tmp 3, .clo 204 []), (.tmp 9, .di), (.tmp 10, .di)]
abbrev partInsL_o1 : Outs := [(.exit 2, [(.obj 0, .own 55 (.slice (.int .i64))), (.tmp 0, .own' 0), (.tmp 1, .di), (.tmp 2, .di), (.tmp 3, .clo 204 []), (.tmp 9, .di), (.tmp 10, .di)])]
def partInsL_s1 [Lk] : (List (List Int) × Int × Int × Int × Int × Unit) → Option ((List (List Int) × Int × Int × Int × Int × Unit) ⊕ (List (List Int) × Int × Int × Int × Int × Unit) ⊕ Unit) := partInsG_s1 (([] : List (Int)) : (List Int)) with1
abbrev partInsL_i0 : Items := [(.obj 0, .own 55 (.slice (.int .i64))), (.tmp 0, .own' 0), (.tmp 1, .di), (.tmp 2, .di), (.tmp 3, .clo 204 []), (.tmp 9, .di), (.tmp 10, .di)]
abbrev partInsL_o0 : Outs := [(.ret, [(.obj 0, .own 55 (.slice (.int .i64))), (.tmp 8, .dat .bool)]), (.exit 0, [(.obj 0, .own 55 (.slice (.int .i64)))])]
def partInsL_s0 [Lk] : (List (List Int) × Int × Int × Int × Int × Unit) → Option ((List (List Int) × Int × Int × Int × Int × Unit) ⊕ (List (List Int) × Bool × Unit) ⊕ (List (List Int) × Unit) ⊕ Unit) := partInsG_s0 (([] : List (Int)) : (List Int)) with1
def partInsL_d [Lk] : (List (List Int) × Int × Int × Unit) → Option ((List (List Int) × Bool × Unit)) := partInsG_d (([] : List (Int)) : (List Int)) with1
def partInsL [Lk] (v : (List (List Int) × Int × Int × Unit)) : Option ((List (List Int) × Bool × Unit)) := partInsG (([] : List (Int)) : (List Int)) with1 v
theorem partInsL_eq v : partInsL v = partInsL_d v := lock_eq _
-- slices.partitionEqualCmpFunc[[]int]
abbrev partEqL_i : Items := [(.tmp 0, .own 55 (.slice (.int .i64))), (.tmp 1, .di), (.tmp 2, .di), (.tmp 3, .di), (.tmp 4, .clo 204 [])]
abbrev partEqL_o : Items := [(.obj 0, .own 55 (.slice (.int .i64))), (.tmp 0, .di)]
abbrev partEqL_r : List RS := [.one]
abbrev partEqL_i2 : Items := [(.obj 0, .own 55 (.slice (.int .i64))), (.tmp 0, .own' 0), (.tmp 1, .di), (.tmp 4, .clo 204 []), (.tmp 11, .di), (.tmp 12, .di)]
abbrev partEqL_o2 : Outs := [(.exit 4, [(.obj 0, .own 55 (.slice (.int .i64))), (.tmp 0, .own' 0), (.tmp 1, .di), (.tmp 4, .clo 204 []), (.tmp 11, .di), (.tmp 12, .di)])]
def partEqL_s2 [Lk] : (List (List Int) × Int × Int × Int × Unit) → Option ((List (List Int) × Int × Int × Int × Unit) ⊕ (List (List Int) × Int × Int × Int × Unit) ⊕ Unit) := partEqG_s2 (([] : List (Int)) : (List Int)) with1
abbrev partEqL_i1 : Items := [(.obj 0, .own 55 (.slice (.int .i64))), (.tmp 0, .own' 0), (.tmp 1, .di), (.tmp 4, .clo 204 []), (.tmp 11, .di), (.tmp 12, .di)]
abbrev partEqL_o1 : Outs := [(.exit 2, [(.obj 0, .own 55 (.slice (.int .i64))), (.tmp 0, .own' 0), (.tmp 1, .di), (.tmp 4, .clo 204 []), (.tmp 11, .di), (.tmp 12, .di)])]
def partEqL_s1 [Lk] : (List (List Int) × Int × Int × Int × Unit) → Option ((List (List Int) × Int × Int × Int × Unit) ⊕ (List (List Int) × Int × Int × Int × Unit) ⊕ Unit) := partEqG_s1 (([] : List (Int)) : (List Int)) with1
abbrev partEqL_i0 : Items := [(.obj 0, .own 55 (.slice (.int .i64))), (.tmp 0, .own' 0), (.tmp 1, .di), (.tmp 4, .clo 204 []), (.tmp 11, .di), (.tmp 12, .di)]
abbrev partEqL_o0 : Outs := [(.exit 0, [(.obj 0, .own 55 (.slice (.int .i64))), (.tmp 11, .di)])]
def partEqL_s0 [Lk] : (List (List Int) × Int × Int × Int × Unit) → Option ((List (List Int) × Int × Int × Int × Unit) ⊕ (List (List Int) × Int × Unit) ⊕ Unit) := partEqG_s0 (([] : List (Int)) : (List Int)) with1
def partEqL_d [Lk] : (List (List Int) × Int × Int × Int × Unit) → Option ((List (List Int) × Int × Unit)) := partEqG_d (([] : List (Int)) : (List Int)) with1
def partEqL [Lk] (v : (List (List Int) × Int × Int × Int × Unit)) : Option ((List (List Int) × Int × Unit)) := partEqG (([] : List (Int)) : (List Int)) with1 v
theorem partEqL_eq v : partEqL v = partEqL_d v := lock_eq _
end
end Go.Pev
end
section
namespace Go.Pev
set_option maxRecDepth 100000
noncomputable section
attribute [local irreducible] fitsR fitsIR idxR sublR iltR ileR ieqR quoR remR shlR shrR cloneR iterO many IntKind.wrap dlen dset dget dapp dtake dcut drep dnat dclear imin imax lookupM storeM
-- slices.partitionCmpFunc[[]int]
abbrev partL_i : Items := [(.tmp 0, .own 55 (.slice (.int .i64))), (.tmp 1, .di), (.tmp 2, .di), (.tmp 3, .di), (.tmp 4, .clo 204 [])]
abbrev partL_o : Items := [(.obj 0, .own 55 (.slice (.int .i64))), (.tmp 0, .di), (.tmp 1, .dat .bool)]
abbrev partL_r : List RS := [.one, .one]
abbrev partL_i4 : Items := [(.obj 0, .own 55 (.slice (.int .i64))), (.tmp 0, .own' 0), (.tmp 1, .di), (.tmp 4, .clo 204 []), (.tmp 12, .di), (.tmp 13, .di)]
abbrev partL_o4 : Outs := [(.exit 8, [(.obj 0, .own 55 (.slice (.int .i64))), (.tmp 0, .own' 0), (.tmp 1, .di), (.tmp 4, .clo 204 []), (.tmp 12, .di), (.tmp 13, .di)])]
def partL_s4 [Lk] : (List (List Int) × Int × Int × Int × Unit) → Option ((List (List Int) × Int × Int × Int × Unit) ⊕ (List (List Int) × Int × Int × Int × Unit) ⊕ Unit) := partG_s4 (([] : List (Int)) : (List Int)) with1
abbrev partL_i3 : Items := [(.obj 0, .own 55 (.slice (.int .i64))), (.tmp 0, .own' 0), (.tmp 1, .di), (.tmp 4, .clo 204 []), (.tmp 12, .di), (.tmp 13, .di)]
abbrev partL_o3 : Outs := [(.exit 6, [(.obj 0, .own 55 (.slice (.int .i64))), (.tmp 0, .own' 0), (.tmp 1, .di), (.tmp 4, .clo 204 []), (.tmp 12, .di), (.tmp 13, .di)])]
def partL_s3 [Lk] : (List (List Int) × Int × Int × Int × Unit) → Option ((List (List Int) × Int × Int × Int × Unit) ⊕ (List (List Int) × Int × Int × Int × Unit) ⊕ Unit) := partG_s3 (([] : List (Int)) : (List Int)) with1
abbrev partL_i2 : Items := [(.obj 0, .own 55 (.slice (.int .i64))), (.tmp 0, .own' 0), (.tmp 1, .di), (.tmp 4, .clo 204 []), (.tmp 12, .di), (.tmp 13, .di)]
abbrev partL_o2 : Outs := [(.exit 4, [(.obj 0, .own 55 (.slice (.int .i64))), (.tmp 0, .own' 0), (.tmp 1, .di), (.tmp 13, .di)])]
def partL_s2 [Lk] : (List (List Int) × Int × Int × Int × Unit) → Option ((List (List Int) × Int × Int × Int × Unit) ⊕ (List (List Int) × Int × Int × Unit) ⊕ Unit) := partG_s2 (([] : List (Int)) : (List Int)) with1
abbrev partL_i1 : Items := [(.obj 0, .own 55 (.slice (.int .i64))), (.tmp 0, .own' 0), (.tmp 1, .di), (.tmp 4, .clo 204 []), (.tmp 12, .di), (.tmp 13, .di)]
abbrev partL_o1 : Outs := [(.exit 2, [(.obj 0, .own 55 (.slice (.int .i64))), (.tmp 0, .own' 0), (.tmp 1, .di), (.tmp 4, .clo 204 []), (.tmp 12, .di), (.tmp 13, .di)])]
def partL_s1 [Lk] : (List (List Int) × Int × Int × Int × Unit) → Option ((List (List Int) × Int × Int × Int × Unit) ⊕ (List (List Int) × Int × Int × Int × Unit) ⊕ Unit) := partG_s1 (([] : List (Int)) : (List Int)) with1
abbrev partL_i0 : Items := [(.obj 0, .own 55 (.slice (.int .i64))), (.tmp 0, .own' 0), (.tmp 1, .di), (.tmp 4, .clo 204 []), (.tmp 12, .di), (.tmp 13, .di)]
abbrev partL_o0 : Outs := [(.exit 0, [(.obj 0, .own 55 (.slice (.int .i64))), (.tmp 0, .own' 0), (.tmp 1, .di), (.tmp 4, .clo 204 []), (.tmp 12, .di), (.tmp 13, .di)])]
def partL_s0 [Lk] : (List (List Int) × Int × Int × Int × Unit) → Option ((List (List Int) × Int × Int × Int × Unit) ⊕ (List (List Int) × Int × Int × Int × Unit) ⊕ Unit) := partG_s0 (([] : List (Int)) : (List Int)) with1
def partL_d [Lk] : (List (List Int) × Int × Int × Int × Unit) → Option ((List (List Int) × Int × Bool × Unit)) := partG_d (([] : List (Int)) : (List Int)) with1
def partL [Lk] (v : (List (List Int) × Int × Int × Int × Unit)) : Option ((List (List Int) × Int × Bool × Unit)) := partG (([] : List (Int)) : (List Int)) with1 v
theorem partL_eq v : partL v = partL_d v := lock_eq _
-- slices.pdqsortCmpFunc[[]int]
abbrev pdqL_i : Items := [(.tmp 0, .own 55 (.slice (.int .i64))), (.tmp 1, .di), (.tmp 2, .di), (.tmp 3, .di), (.tmp 4, .clo 204 [])]
abbrev pdqL_o : Items := [(.obj 0, .own 55 (.slice (.int .i64)))]
abbrev pdqL_r : List RS := []
abbrev pdqL_i0 : Items := [(.obj 0, .own 55 (.slice (.int .i64))), (.tmp 0, .own' 0), (.tmp 1, .di), (.tmp 2, .di), (.tmp 3, .di), (.tmp 4, .clo 204 []), (.tmp 10, .dat .bool), (.tmp 11, .dat .bool)]
abbrev pdqL_o0 : Outs := [(.ret, [(.obj 0, .own 55 (.slice (.int .i64)))])]
def pdqL_s0 [Lk] (self : (List (List Int) × Int × Int × Int × Unit) → Option ((List (List Int) × Unit))) : (List (List Int) × Int × Int × Int × Bool × Bool × Unit) → Option ((List (List Int) × Int × Int × Int × Bool × Bool × Unit) ⊕ (List (List Int) × Unit) ⊕ Unit) := pdqG_s0 (([] : List (Int)) : (List Int)) with1 self
def pdqL_d [Lk] (self : (List (List Int) × Int × Int × Int × Unit) → Option ((List (List Int) × Unit))) : (List (List Int) × Int × Int × Int × Unit) → Option ((List (List Int) × Unit)) := pdqG_d (([] : List (Int)) : (List Int)) with1 self
def pdqL_f [Lk] : Nat → (List (List Int) × Int × Int × Int × Unit) → Option ((List (List Int) × Unit)) := pdqG_f (([] : List (Int)) : (List Int)) with1
def pdqL [Lk] (v : (List (List Int) × Int × Int × Int × Unit)) : Option ((List (List Int) × Unit)) := pdqG (([] : List (Int)) : (List Int)) with1 v
theorem pdqL_eq v : pdqL v = pdqL_f 100 v := lock_eq _
-- slices.SortFunc[[][]int,[]int]
abbrev sortL_i : Items := [(.tmp 0, .own 55 (.slice (.int .i64))), (.tmp 1, .clo 204 [])]
abbrev sortL_o : Items := [(.obj 0, .own 55 (.slice (.int .i64)))]
abbrev sortL_r : List RS := []
def sortL_d [Lk] : (List (List Int) × Unit) → Option ((List (List Int) × Unit)) := sortG_d (([] : List (Int)) : (List Int)) with1
def sortL [Lk] (v : (List (List Int) × Unit)) : Option ((List (List Int) × Unit)) := sortG (([] : List (Int)) : (List Int)) with1 v
theorem sortL_eq v : sortL v = sortL_d v := lock_eq _
-- archipelago/tour.with
abbrev twith_i : Items := [(.tmp 0, .dat (.prod (.int .i64) (.prod (.slice (.slice (.int .i64))) .unit))), (.tmp 1, .dat (.slice (.int .i64))), (.tmp 2, .dat (.slice (.slice (.int .i64))))]
abbrev twith_o : Items := [(.tmp 0, .di), (.tmp 1, .own 55 (.slice (.int .i64)))]
abbrev twith_r : List RS := [.agg 2]
abbrev twith_i1 : Items := [(.tmp 3, .box 2), (.cell 0 0, .di), (.cell 0 1, .dat (.slice (.slice (.int .i64)))), (.tmp 6, .box 2), (.cell 1 0, .di), (.cell 1 1, .nil (.slice (.int .i64))), (.tmp 7, .own 55 (.slice (.int .i64))), (.tmp 29, .dat (.slice (.slice (.int .i64)))), (.tmp 30, .di), (.tmp 31, .di)]
abbrev twith_o1 : Outs := [(.exit 2, [(.tmp 3, .box 2), (.cell 0 0, .di), (.cell 0 1, .dat (.slice (.slice (.int .i64)))), (.tmp 6, .box 2), (.cell 1 0, .di), (.cell 1 1, .nil (.slice (.int .i64))), (.tmp 7, .own 55 (.slice (.int .i64)))])]
def twith_s1 [Lk] : (Int × List (List Int) × Int × List (List Int) × List (List Int) × Int × Int × Unit) → Option ((Int × List (List Int) × Int × List (List Int) × List (List Int) × Int × Int × Unit) ⊕ (Int × List (List Int) × Int × List (List Int) × Unit) ⊕ Unit) := fun (a0, a1, a2, a3, a4, a5, a6, _) =>
 match (ilt a6 a5) with
 | true => match idx a4 a6 with
  | none => none
  | some x0 => match rplain (x0, ()) with
   | none => none
   | some (y1, _) => match (fits ((dlen a3) + (dlen ([y1] : List (List Int))))) with
    | true => some (.inl (a0, a1, a2, (dapp a3 ([y1] : List (List Int))), a4, a5, (IntKind.wrap .i64 (a6 + 1)), ()))
    | false => none
 | false => some (.inr (.inl (a0, a1, a2, a3, ())))
abbrev twith_i0 : Items := [(.tmp 1, .dat (.slice (.int .i64))), (.tmp 2, .dat (.slice (.slice (.int .i64)))), (.tmp 3, .box 2), (.cell 0 0, .di), (.cell 0 1, .dat (.slice (.slice (.int .i64)))), (.tmp 6, .box 2), (.cell 1 0, .di), (.cell 1 1, .nil (.slice (.int .i64))), (.tmp 7, .own 55 (.slice (.int .i64))), (.tmp 13, .dat (.slice (.slice (.int .i64)))), (.tmp 14, .di), (.tmp 15, .di)]
abbrev twith_o0 : Outs := [(.exit 0, [(.tmp 2, .dat (.slice (.slice (.int .i64)))), (.tmp 3, .box 2), (.cell 0 0, .di), (.cell 0 1, .dat (.slice (.slice (.int .i64)))), (.tmp 6, .box 2), (.cell 1 0, .di), (.cell 1 1, .nil (.slice (.int .i64))), (.tmp 7, .own 55 (.slice (.int .i64)))])]
def twith_s0 [Lk] : (List Int × List (List Int) × Int × List (List Int) × Int × List (List Int) × List (List Int) × Int × Int × Unit) → Option ((List Int × List (List Int) × Int × List (List Int) × Int × List (List Int) × List (List Int) × Int × Int × Unit) ⊕ (List (List Int) × Int × List (List Int) × Int × List (List Int) × Unit) ⊕ Unit) := fun (a0, a1, a2, a3, a4, a5, a6, a7, a8, _) =>
 match (ilt a8 a7) with
 | true => match idx a6 a8 with
  | none => none
  | some x0 => match containsI (a0, a8, ()) with
   | none => none
   | some (y1, _) => match (!y1) with
    | true => match (fits ((dlen a5) + (dlen ([x0] : List (List Int))))) with
     | true => some (.inl (a0, a1, a2, a3, a4, (dapp a5 ([x0] : List (List Int))), a6, a7, (IntKind.wrap .i64 (a8 + 1)), ()))
     | false => none
    | false => some (.inl (a0, a1, a2, a3, a4, a5, a6, a7, (IntKind.wrap .i64 (a8 + 1)), ()))
 | false => some (.inr (.inl (a1, a2, a3, a4, a5, ())))
def twith_d [Lk] : ((Int × (List (List Int)) × Unit) × List Int × List (List Int) × Unit) → Option ((Int × List (List Int) × Unit)) := fun (a0, a1, a2, _) =>
 match iterL twith_s0 many (a1, a2, a0.1, a0.2.1, 0, ([] : List (List Int)), a0.2.1, (dlen a0.2.1), 0, ()) with
 | none => none
 | some r => match r with
  | .inl (o0, o1, o2, o3, o4, _) => match iterL twith_s1 many (o1, o2, o3, o4, o0, (dlen o0), 0, ()) with
   | none => none
   | some r => match r with
    | .inl (o5, o6, o7, o8, _) => match sortL (o8, ()) with
     | none => none
     | some (y9, _) => some (o5, y9, ())
    | .inr _ => none
  | .inr _ => none
def twith [Lk] := fun v => Lk.f (twith_d v)
theorem twith_eq v : twith v = twith_d v := lock_eq _
-- archipelago/tour.Link
abbrev tlink_i : Items := [(.tmp 0, .dat (.prod (.int .i64) (.prod (.slice (.slice (.int .i64))) .unit))), (.tmp 1, .di), (.tmp 2, .di)]
abbrev tlink_o : Items := [(.tmp 0, .di), (.tmp 1, .dat (.slice (.slice (.int .i64)))), (.tmp 2, .di)]
abbrev tlink_r : List RS := [.agg 2, .one]
def tlink_d [Lk] : ((Int × (List (List Int)) × Unit) × Int × Int × Unit) → Option ((Int × List (List Int) × Int × Unit)) := fun (a0, a1, a2, _) =>
 match asked ((a0.1, (a0.2.1, ())), a1, a2, ()) with
 | none => none
 | some (y0, _) => match (!(ieq y0 0)) with
  | true => some (a0.1, a0.2.1, y0, ())
  | false => match tplace ((a0.1, (a0.2.1, ())), a1, ()) with
   | none => none
   | some (y1, _) => match tplace ((a0.1, (a0.2.1, ())), a2, ()) with
    | none => none
    | some (y2, _) => match (ieq y1 y2) with
     | true => some (a0.1, a0.2.1, 5, ())
     | false => match idx a0.2.1 y1 with
      | none => none
      | some x3 => match rfrom (x3, a1, ()) with
       | none => none
       | some (y4, y5, _) => match idx a0.2.1 y2 with
        | none => none
        | some x6 => match rfrom (x6, a2, ()) with
         | none => none
         | some (y7, y8, _) => match subl y4 0 1 with
          | none => none
          | some x9 => match tarc (a0.1, a1, a2, ()) with
           | none => none
           | some (y10, _) => match tarc (a0.1, a2, a1, ()) with
            | none => none
            | some (y11, _) => match subl y4 1 (dlen y4) with
             | none => none
             | some x12 => match concatI (([(dcut 0 (dnat (dlen x9)) y4), ([y10] : List (Int)), y7, ([y11] : List (Int)), (dcut 1 (dnat (dlen x12)) y4)] : List (List Int)), ()) with
              | none => none
              | some (y13, _) => match twith ((a0.1, (a0.2.1, ())), ([y1, y2] : List (Int)), ([y13] : List (List Int)), ()) with
               | none => none
               | some (y14, y15, _) => some (y14, y15, 0, ())
def tlink [Lk] := fun v => Lk.f (tlink_d v)
theorem tlink_eq v : tlink v = tlink_d v := lock_eq _
-- slices.IndexFunc[[]int,int]
abbrev idxFuncI_there_i : Items := [(.tmp 0, .dat (.slice (.int .i64))), (.cap 1 0, .box 2), (.cell 0 0, .di), (.cell 0 1, .dat (.slice (.slice (.int .i64)))), (.tmp 1, .clo 155 [(0, 0)])]
abbrev idxFuncI_there_o : Items := [(.obj 0, .box 2), (.cell 0 0, .di), (.cell 0 1, .dat (.slice (.slice (.int .i64)))), (.tmp 0, .di)]
abbrev idxFuncI_there_r : List RS := [.one]
abbrev idxFuncI_there_i0 : Items := [(.obj 0, .box 2), (.cell 0 0, .di), (.cell 0 1, .dat (.slice (.slice (.int .i64)))), (.tmp 0, .dat (.slice (.int .i64))), (.tmp 1, .clo 155 [(0, 0)]), (.tmp 7, .di), (.tmp 8, .di)]
abbrev idxFuncI_there_o0 : Outs := [(.ret, [(.obj 0, .box 2), (.cell 0 0, .di), (.cell 0 1, .dat (.slice (.slice (.int .i64)))), (.tmp 4, .di)]), (.exit 0, [(.obj 0, .box 2), (.cell 0 0, .di), (.cell 0 1, .dat (.slice (.slice (.int .i64))))])]
def idxFuncI_there_s0 [Lk] : (Int × List (List Int) × List Int × Int × Int × Unit) → Option ((Int × List (List Int) × List Int × Int × Int × Unit) ⊕ (Int × List (List Int) × Int × Unit) ⊕ (Int × List (List Int) × Unit) ⊕ Unit) := fun (a0, a1, a2, a3, a4, _) =>
 match (ilt a4 a3) with
 | true => match idx a2 a4 with
  | none => none
  | some x0 => match (ilt x0 0) with
   | true => some (.inr (.inl (a0, a1, a4, ())))
   | false => match (ile a0 x0) with
    | true => some (.inr (.inl (a0, a1, a4, ())))
    | false => some (.inl (a0, a1, a2, a3, (IntKind.wrap .i64 (a4 + 1)), ()))
 | false => some (.inr (.inr (.inl (a0, a1, ()))))
def idxFuncI_there_d [Lk] : (List Int × Int × List (List Int) × Unit) → Option ((Int × List (List Int) × Int × Unit)) := fun (a0, a1, a2, _) =>
 match iterL idxFuncI_there_s0 many (a1, a2, a0, (dlen a0), 0, ()) with
 | none => none
 | some r => match r with
  | .inl (o0, o1, o2, _) => some (o0, o1, o2, ())
  | .inr r => match r with
   | .inl (o3, o4, _) => some (o3, o4, (-1 : Int), ())
   | .inr _ => none
def idxFuncI_there [Lk] := fun v => Lk.f (idxFuncI_there_d v)
theorem idxFuncI_there_eq v : idxFuncI_there v = idxFuncI_there_d v := lock_eq _
-- slices.ContainsFunc[[]int,int]
abbrev contFuncI_there_i : Items := [(.tmp 0, .dat (.slice (.int .i64))), (.cap 1 0, .box 2), (.cell 0 0, .di), (.cell 0 1, .dat (.slice (.slice (.int .i64)))), (.tmp 1, .clo 155 [(0, 0)])]
abbrev contFuncI_there_o : Items := [(.obj 0, .box 2), (.cell 0 0, .di), (.cell 0 1, .dat (.slice (.slice (.int .i64)))), (.tmp 0, .dat .bool)]
abbrev contFuncI_there_r : List RS := [.one]
def contFuncI_there_d [Lk] : (List Int × Int × List (List Int) × Unit) → Option ((Int × List (List Int) × Bool × Unit)) := fun (a0, a1, a2, _) =>
 match idxFuncI_there (a0, a1, a2, ()) with
 | none => none
 | some (y0, y1, y2, _) => some (y0, y1, (ile 0 y2), ())
def contFuncI_there [Lk] := fun v => Lk.f (contFuncI_there_d v)
theorem contFuncI_there_eq v : contFuncI_there v = contFuncI_there_d v := lock_eq _
-- archipelago/forest.there
abbrev fthere_i : Items := [(.tmp 0, .dat (.prod (.int .i64) (.prod (.slice (.slice (.int .i64))) .unit))), (.tmp 1, .dat (.slice (.int .i64)))]
abbrev fthere_o : Items := [(.tmp 0, .di)]
abbrev fthere_r : List RS := [.one]
def fthere_d [Lk] : ((Int × (List (List Int)) × Unit) × List Int × Unit) → Option ((Int × Unit)) := fun (a0, a1, _) =>
 match tright ((a0.1, (a0.2.1, ())), ()) with
 | none => none
 | some (y0, _) => match (!y0) with
  | true => some (1, ())
  | false => match contFuncI_there (a1, a0.1, a0.2.1, ()) with
   | none => none
   | some (y1, y2, y3, _) => match y3 with
    | true => some (10, ())
    | false => some (0, ())
def fthere [Lk] := fun v => Lk.f (fthere_d v)
theorem fthere_eq v : fthere v = fthere_d v := lock_eq _
-- archipelago/forest.ends
abbrev ends_i : Items := [(.tmp 0, .dat (.slice (.prod (.int .i64) (.prod (.int .i64) .unit))))]
abbrev ends_o : Items := [(.tmp 0, .own 3 (.int .i64))]
abbrev ends_r : List RS := [.one]
abbrev ends_i0 : Items := [(.tmp 3, .own 3 (.int .i64)), (.tmp 6, .dat (.slice (.prod (.int .i64) (.prod (.int .i64) .unit)))), (.tmp 7, .di), (.tmp 8, .di)]
abbrev ends_o0 : Outs := [(.exit 0, [(.tmp 3, .own 3 (.int .i64))])]
def ends_s0 [Lk] : (List Int × List (Int × Int × Unit) × Int × Int × Unit) → Option ((List Int × List (Int × Int × Unit) × Int × Int × Unit) ⊕ (List Int × Unit) ⊕ Unit) := fun (a0, a1, a2, a3, _) =>
 match (ilt a3 a2) with
 | true => match idx a1 a3 with
  | none => none
  | some x0 => match (fits ((dlen a0) + (dlen ([x0.1, x0.2.1] : List (Int))))) with
   | true => some (.inl ((dapp a0 ([x0.1, x0.2.1] : List (Int))), a1, a2, (IntKind.wrap .i64 (a3 + 1)), ()))
   | false => none
 | false => some (.inr (.inl (a0, ())))
def ends_d [Lk] : (List (Int × Int × Unit) × Unit) → Option ((List Int × Unit)) := fun (a0, _) =>
 match iterL ends_s0 many (([] : List (Int)), a0, (dlen a0), 0, ()) with
 | none => none
 | some r => match r with
  | .inl (o0, _) => some (o0, ())
  | .inr _ => none
def ends [Lk] := fun v => Lk.f (ends_d v)
theorem ends_eq v : ends v = ends_d v := lock_eq _
-- archipelago/forest.each
abbrev eachLink_i : Items := [(.tmp 0, .dat (.prod (.int .i64) (.prod (.slice (.slice (.int .i64))) .unit))), (.tmp 1, .dat (.slice (.prod (.int .i64) (.prod (.int .i64) .unit)))), (.tmp 2, .clo 161 [])]
abbrev eachLink_o : Items := [(.tmp 0, .dat (.prod (.int .i64) (.prod (.slice (.slice (.int .i64))) .unit))), (.tmp 1, .own 4 .bool), (.tmp 2, .di)]
abbrev eachLink_r : List RS := [.one, .one, .one]
abbrev eachLink_i0 : Items := [(.tmp 2, .clo 161 []), (.tmp 3, .box 2), (.cell 0 0, .di), (.cell 0 1, .dat (.slice (.slice (.int .i64)))), (.tmp 6, .box 2), (.cell 1 0, .di), (.cell 1 1, .nil (.slice (.int .i64))), (.tmp 10, .own 4 .bool), (.tmp 23, .dat (.slice (.prod (.int .i64) (.prod (.int .i64) .unit)))), (.tmp 24, .di), (.tmp 25, .di)]
abbrev eachLink_o0 : Outs := [(.exit 0, [(.tmp 3, .box 2), (.cell 0 0, .di), (.cell 0 1, .dat (.slice (.slice (.int .i64)))), (.tmp 6, .box 2), (.cell 1 0, .di), (.cell 1 1, .nil (.slice (.int .i64))), (.tmp 10, .own 4 .bool)])]
def eachLink_s0 [Lk] : (Int × List (List Int) × Int × List Bool × List (Int × Int × Unit) × Int × Int × Unit) → Option ((Int × List (List Int) × Int × List Bool × List (Int × Int × Unit) × Int × Int × Unit) ⊕ (Int × List (List Int) × Int × List Bool × Unit) ⊕ Unit) := fun (a0, a1, a2, a3, a4, a5, a6, _) =>
 match (ilt a6 a5) with
 | true => match idx a4 a6 with
  | none => none
  | some x0 => match tlink ((a0, (a1, ())), x0.1, x0.2.1, ()) with
   | none => none
   | some (y1, y2, y3, _) => match (fits ((dlen a3) + (dlen ([(ieq y3 0)] : List (Bool))))) with
    | true => some (.inl (y1, y2, a2, (dapp a3 ([(ieq y3 0)] : List (Bool))), a4, a5, (IntKind.wrap .i64 (a6 + 1)), ()))
    | false => none
 | false => some (.inr (.inl (a0, a1, a2, a3, ())))
def eachLink_d [Lk] : ((Int × (List (List Int)) × Unit) × List (Int × Int × Unit) × Unit) → Option (((Int × (List (List Int)) × Unit) × List Bool × Int × Unit)) := fun (a0, a1, _) =>
 match ends (a1, ()) with
 | none => none
 | some (y0, _) => match fthere ((a0.1, (a0.2.1, ())), y0, ()) with
  | none => none
  | some (y1, _) => match (!(ieq y1 0)) with
   | true => some ((a0.1, (a0.2.1, ())), ([] : List (Bool)), y1, ())
   | false => match iterL eachLink_s0 many (a0.1, a0.2.1, 0, ([] : List (Bool)), a1, (dlen a1), 0, ()) with
    | none => none
    | some r => match r with
     | .inl (o2, o3, o4, o5, _) => some ((o2, (o3, ())), o5, 0, ())
     | .inr _ => none
def eachLink [Lk] := fun v => Lk.f (eachLink_d v)
theorem eachLink_eq v : eachLink v = eachLink_d v := lock_eq _
-- archipelago/forest.Links
abbrev flinks_i : Items := [(.tmp 0, .dat (.prod (.int .i64) (.prod (.slice (.slice (.int .i64))) .unit))), (.tmp 1, .dat (.slice (.prod (.int .i64) (.prod (.int .i64) .unit))))]
abbrev flinks_o : Items := [(.tmp 0, .dat (.prod (.int .i64) (.prod (.slice (.slice (.int .i64))) .unit))), (.tmp 1, .own 4 .bool), (.tmp 2, .di)]
abbrev flinks_r : List RS := [.one, .one, .one]
def flinks_d [Lk] : ((Int × (List (List Int)) × Unit) × List (Int × Int × Unit) × Unit) → Option (((Int × (List (List Int)) × Unit) × List Bool × Int × Unit)) := fun (a0, a1, _) =>
 match eachLink ((a0.1, (a0.2.1, ())), a1, ()) with
 | none => none
 | some (y0, y1, y2, _) => some ((y0.1, (y0.2.1, ())), y1, y2, ())
def flinks [Lk] := fun v => Lk.f (flinks_d v)
theorem flinks_eq v : flinks v = flinks_d v := lock_eq _
-- archipelago/forest.Of
abbrev fof_i : Items := [(.tmp 0, .di), (.tmp 1, .dat (.slice (.prod (.int .i64) (.prod (.int .i64) .unit))))]
abbrev fof_o : Items := [(.tmp 0, .dat (.prod (.int .i64) (.prod (.slice (.slice (.int .i64))) .unit))), (.tmp 1, .di)]
abbrev fof_r : List RS := [.one, .one]
def fof_d [Lk] : (Int × List (Int × Int × Unit) × Unit) → Option (((Int × (List (List Int)) × Unit) × Int × Unit)) := fun (a0, a1, _) =>
 match tmake (a0, ()) with
 | none => none
 | some (y0, y1, y2, _) => match (!(ieq y2 0)) with
  | true => some ((0, (([] : List (List Int)), ())), y2, ())
  | false => match flinks ((y0, (y1, ())), a1, ()) with
   | none => none
   | some (y3, y4, y5, _) => match (!(ieq y5 0)) with
    | true => some ((0, (([] : List (List Int)), ())), y5, ())
    | false => some ((y3.1, (y3.2.1, ())), 0, ())
def fof [Lk] := fun v => Lk.f (fof_d v)
theorem fof_eq v : fof v = fof_d v := lock_eq _
-- cmp.Or[int]
abbrev orI_i : Items := [(.tmp 0, .dat (.slice (.int .i64)))]
abbrev orI_o : Items := [(.tmp 0, .di)]
abbrev orI_r : List RS := [.one]
abbrev orI_i0 : Items := [(.tmp 3, .di), (.tmp 6, .dat (.slice (.int .i64))), (.tmp 7, .di), (.tmp 8, .di)]
abbrev orI_o0 : Outs := [(.ret, [(.tmp 2, .di)]), (.exit 0, [(.tmp 3, .di)])]
def orI_s0 [Lk] : (Int × List Int × Int × Int × Unit) → Option ((Int × List Int × Int × Int × Unit) ⊕ (Int × Unit) ⊕ (Int × Unit) ⊕ Unit) := fun (a0, a1, a2, a3, _) =>
 match (ilt a3 a2) with
 | true => match idx a1 a3 with
  | none => none
  | some x0 => match (!(ieq x0 a0)) with
   | true => some (.inr (.inl (x0, ())))
   | false => some (.inl (a0, a1, a2, (IntKind.wrap .i64 (a3 + 1)), ()))
 | false => some (.inr (.inr (.inl (a0, ()))))
def orI_d [Lk] : (List Int × Unit) → Option ((Int × Unit)) := fun (a0, _) =>
 match iterL orI_s0 many (0, a0, (dlen a0), 0, ()) with
 | none => none
 | some r => match r with
  | .inl (o0, _) => some (o0, ())
  | .inr r => match r with
   | .inl (o1, _) => some (o1, ())
   | .inr _ => none
def orI [Lk] := fun v => Lk.f (orI_d v)
theorem orI_eq v : orI v = orI_d v := lock_eq _
-- archipelago/level.sized
abbrev lsized_i : Items := [(.tmp 0, .di)]
abbrev lsized_o : Items := [(.tmp 0, .dat .bool)]
abbrev lsized_r : List RS := [.one]
def lsized_d [Lk] : (Int × Unit) → Option ((Bool × Unit)) := fun (a0, _) =>
 match (ile 1 a0) with
 | true => some ((ile a0 64), ())
 | false => some (false, ())
def lsized [Lk] := fun v => Lk.f (lsized_d v)
theorem lsized_eq v : lsized v = lsized_d v := lock_eq _
-- archipelago/level.Top
abbrev ltop_i : Items := [(.tmp 0, .di)]
abbrev ltop_o : Items := [(.tmp 0, .di)]
abbrev ltop_r : List RS := [.one]
def ltop_d [Lk] : (Int × Unit) → Option ((Int × Unit)) := fun (a0, _) =>
 match lsized (a0, ()) with
 | none => none
 | some (y0, _) => match (!y0) with
  | true => some (0, ())
  | false => match bitsLen ((IntKind.wrap .u64 (IntKind.wrap .i64 (a0 - 1))), ()) with
   | none => none
   | some (y1, _) => some (y1, ())
def ltop [Lk] := fun v => Lk.f (ltop_d v)
theorem ltop_eq v : ltop v = ltop_d v := lock_eq _
-- archipelago/level.compare
abbrev lcompare_i : Items := [(.tmp 0, .dat (.prod (.int .i64) (.prod (.int .i64) (.prod (.int .i64) (.prod .bool .unit))))), (.tmp 1, .dat (.prod (.int .i64) (.prod (.int .i64) (.prod (.int .i64) (.prod .bool .unit)))))]
abbrev lcompare_o : Items := [(.tmp 0, .di)]
abbrev lcompare_r : List RS := [.one]
def lcompare_d [Lk] : ((Int × Int × Int × Bool × Unit) × (Int × Int × Int × Bool × Unit) × Unit) → Option ((Int × Unit)) := fun (a0, a1, _) =>
 match compareI (a0.1, a1.1, ()) with
 | none => none
 | some (y0, _) => match compareI (a0.2.1, a1.2.1, ()) with
  | none => none
  | some (y1, _) => match orI (([y0, y1] : List (Int)), ()) with
   | none => none
   | some (y2, _) => some (y2, ())
def lcompare [Lk] := fun v => Lk.f (lcompare_d v)
theorem lcompare_eq v : lcompare v = lcompare_d v := lock_eq _
-- archipelago/level.trees
abbrev ltrees_i : Items := [(.tmp 0, .dat (.prod (.int .i64) (.prod (.slice (.prod (.int .i64) (.prod (.int .i64) (.prod (.int .i64) (.prod .bool .unit))))) .unit))), (.tmp 1, .di)]
abbrev ltrees_o : Items := [(.tmp 0, .own 42 (.prod (.int .i64) (.prod (.int .i64) .unit)))]
abbrev ltrees_r : List RS := [.one]
abbrev ltrees_i0 : Items := [(.tmp 1, .di), (.tmp 5, .own 42 (.prod (.int .i64) (.prod (.int .i64) .unit))), (.tmp 9, .dat (.slice (.prod (.int .i64) (.prod (.int .i64) (.prod (.int .i64) (.prod .bool .unit)))))), (.tmp 10, .di), (.tmp 11, .di)]
abbrev ltrees_o0 : Outs := [(.exit 0, [(.tmp 5, .own 42 (.prod (.int .i64) (.prod (.int .i64) .unit)))])]
def ltrees_s0 [Lk] : (Int × List (Int × Int × Unit) × List (Int × Int × Int × Bool × Unit) × Int × Int × Unit) → Option ((Int × List (Int × Int × Unit) × List (Int × Int × Int × Bool × Unit) × Int × Int × Unit) ⊕ (List (Int × Int × Unit) × Unit) ⊕ Unit) := fun (a0, a1, a2, a3, a4, _) =>
 match (ilt a4 a3) with
 | true => match idx a2 a4 with
  | none => none
  | some x0 => match x0.2.2.2.1 with
   | true => match (ile a0 x0.2.2.1) with
    | true => match (fits ((dlen a1) + (dlen ([(x0.1, (x0.2.1, ()))] : List (Int × Int × Unit))))) with
     | true => some (.inl (a0, (dapp a1 ([(x0.1, (x0.2.1, ()))] : List (Int × Int × Unit))), a2, a3, (IntKind.wrap .i64 (a4 + 1)), ()))
     | false => none
    | false => some (.inl (a0, a1, a2, a3, (IntKind.wrap .i64 (a4 + 1)), ()))
   | false => some (.inl (a0, a1, a2, a3, (IntKind.wrap .i64 (a4 + 1)), ()))
 | false => some (.inr (.inl (a1, ())))
def ltrees_d [Lk] : ((Int × (List (Int × Int × Int × Bool × Unit)) × Unit) × Int × Unit) → Option ((List (Int × Int × Unit) × Unit)) := fun (a0, a1, _) =>
 match iterL ltrees_s0 many (a1, ([] : List (Int × Int × Unit)), a0.2.1, (dlen a0.2.1), 0, ()) with
 | none => none
 | some r => match r with
  | .inl (o0, _) => some (o0, ())
  | .inr _ => none
def ltrees [Lk] := fun v => Lk.f (ltrees_d v)
theorem ltrees_eq v : ltrees v = ltrees_d v := lock_eq _
-- archipelago/level.Right
abbrev lright_i : Items := [(.tmp 0, .dat (.prod (.int .i64) (.prod (.slice (.prod (.int .i64) (.prod (.int .i64) (.prod (.int .i64) (.prod .bool .unit))))) .unit)))]
abbrev lright_o : Items := [(.tmp 0, .dat .bool)]
abbrev lright_r : List RS := [.one]
abbrev lright_i0 : Items := [(.tmp 1, .box 2), (.cell 0 0, .di), (.cell 0 1, .dat (.slice (.prod (.int .i64) (.prod (.int .i64) (.prod (.int .i64) (.prod .bool .unit)))))), (.tmp 3, .di), (.tmp 23, .dat (.slice (.prod (.int .i64) (.prod (.int .i64) (.prod (.int .i64) (.prod .bool .unit)))))), (.tmp 24, .di), (.tmp 25, .di)]
abbrev lright_o0 : Outs := [(.ret, [(.tmp 2, .dat .bool)]), (.exit 0, [(.tmp 1, .box 2), (.cell 0 0, .di), (.cell 0 1, .dat (.slice (.prod (.int .i64) (.prod (.int .i64) (.prod (.int .i64) (.prod .bool .unit))))))])]
def lright_s0 [Lk] : (Int × List (Int × Int × Int × Bool × Unit) × Int × List (Int × Int × Int × Bool × Unit) × Int × Int × Unit) → Option ((Int × List (Int × Int × Int × Bool × Unit) × Int × List (Int × Int × Int × Bool × Unit) × Int × Int × Unit) ⊕ (Bool × Unit) ⊕ (Int × List (Int × Int × Int × Bool × Unit) × Unit) ⊕ Unit) := fun (a0, a1, a2, a3, a4, a5, _) =>
 match (ilt a5 a4) with
 | true => match idx a3 a5 with
  | none => none
  | some x0 => match (ilt x0.1 0) with
   | true => some (.inr (.inl (false, ())))
   | false => match (ile x0.2.1 x0.1) with
    | true => some (.inr (.inl (false, ())))
    | false => match (ile a0 x0.2.1) with
     | true => some (.inr (.inl (false, ())))
     | false => match (ilt x0.2.2.1 0) with
      | true => some (.inr (.inl (false, ())))
      | false => match (ilt a2 x0.2.2.1) with
       | true => some (.inr (.inl (false, ())))
       | false => match (ilt 0 a5) with
        | true => match idx a1 (IntKind.wrap .i64 (a5 - 1)) with
         | none => none
         | some x1 => match lcompare ((x1.1, (x1.2.1, (x1.2.2.1, (x1.2.2.2.1, ())))), (x0.1, (x0.2.1, (x0.2.2.1, (x0.2.2.2.1, ())))), ()) with
          | none => none
          | some (y2, _) => match (ile 0 y2) with
           | true => some (.inr (.inl (false, ())))
           | false => some (.inl (a0, a1, a2, a3, a4, (IntKind.wrap .i64 (a5 + 1)), ()))
        | false => some (.inl (a0, a1, a2, a3, a4, (IntKind.wrap .i64 (a5 + 1)), ()))
 | false => some (.inr (.inr (.inl (a0, a1, ()))))
def lright_d [Lk] : ((Int × (List (Int × Int × Int × Bool × Unit)) × Unit) × Unit) → Option ((Bool × Unit)) := fun (a0, _) =>
 match lsized (a0.1, ()) with
 | none => none
 | some (y0, _) => match (!y0) with
  | true => some (false, ())
  | false => match (ilt 400 (dlen a0.2.1)) with
   | true => some (false, ())
   | false => match ltop (a0.1, ()) with
    | none => none
    | some (y1, _) => match iterL lright_s0 many (a0.1, a0.2.1, y1, a0.2.1, (dlen a0.2.1), 0, ()) with
     | none => none
     | some r => match r with
      | .inl (o2, _) => some (o2, ())
      | .inr r => match r with
       | .inl (o3, o4, _) => match ltrees ((o3, (o4, ())), 0, ()) with
        | none => none
        | some (y5, _) => match fof (o3, y5, ()) with
         | none => none
         | some (y6, y7, _) => match (ieq y7 0) with
          | true => some ((ieq (dlen y6.2.1) (IntKind.wrap .i64 (o3 - (dlen y5)))), ())
          | false => some (false, ())
       | .inr _ => none
def lright [Lk] := fun v => Lk.f (lright_d v)
theorem lright_eq v : lright v = lright_d v := lock_eq _
-- archipelago/level.Edges
abbrev ledges_i : Items := [(.tmp 0, .dat (.prod (.int .i64) (.prod (.slice (.prod (.int .i64) (.prod (.int .i64) (.prod (.int .i64) (.prod .bool .unit))))) .unit)))]
abbrev ledges_o : Items := [(.tmp 0, .own 42 (.prod (.int .i64) (.prod (.int .i64) .unit)))]
abbrev ledges_r : List RS := [.one]
abbrev ledges_i0 : Items := [(.tmp 3, .own 42 (.prod (.int .i64) (.prod (.int .i64) .unit))), (.tmp 10, .dat (.slice (.prod (.int .i64) (.prod (.int .i64) (.prod (.int .i64) (.prod .bool .unit)))))), (.tmp 11, .di), (.tmp 12, .di)]
abbrev ledges_o0 : Outs := [(.exit 0, [(.tmp 3, .own 42 (.prod (.int .i64) (.prod (.int .i64) .unit)))])]
def ledges_s0 [Lk] : (List (Int × Int × Unit) × List (Int × Int × Int × Bool × Unit) × Int × Int × Unit) → Option ((List (Int × Int × Unit) × List (Int × Int × Int × Bool × Unit) × Int × Int × Unit) ⊕ (List (Int × Int × Unit) × Unit) ⊕ Unit) := fun (a0, a1, a2, a3, _) =>
 match (ilt a3 a2) with
 | true => match idx a1 a3 with
  | none => none
  | some x0 => match (fits ((dlen a0) + (dlen ([(x0.1, (x0.2.1, ()))] : List (Int × Int × Unit))))) with
   | true => some (.inl ((dapp a0 ([(x0.1, (x0.2.1, ()))] : List (Int × Int × Unit))), a1, a2, (IntKind.wrap .i64 (a3 + 1)), ()))
   | false => none
 | false => some (.inr (.inl (a0, ())))
def ledges_d [Lk] : ((Int × (List (Int × Int × Int × Bool × Unit)) × Unit) × Unit) → Option ((List (Int × Int × Unit) × Unit)) := fun (a0, _) =>
 match lright ((a0.1, (a0.2.1, ())), ()) with
 | none => none
 | some (y0, _) => match (!y0) with
  | true => some (([] : List (Int × Int × Unit)), ())
  | false => match iterL ledges_s0 many (([] : List (Int × Int × Unit)), a0.2.1, (dlen a0.2.1), 0, ()) with
   | none => none
   | some r => match r with
    | .inl (o1, _) => some (o1, ())
    | .inr _ => none
def ledges [Lk] := fun v => Lk.f (ledges_d v)
theorem ledges_eq v : ledges v = ledges_d v := lock_eq _
-- archipelago/span.asked
abbrev sasked_i : Items := [(.tmp 0, .di), (.tmp 1, .dat (.slice (.prod (.int .i64) (.prod (.int .i64) .unit))))]
abbrev sasked_o : Items := [(.tmp 0, .di)]
abbrev sasked_r : List RS := [.one]
abbrev sasked_i0 : Items := [(.tmp 0, .di), (.tmp 13, .dat (.slice (.prod (.int .i64) (.prod (.int .i64) .unit)))), (.tmp 14, .di), (.tmp 15, .di)]
abbrev sasked_o0 : Outs := [(.ret, [(.tmp 4, .di)]), (.exit 0, [])]
def sasked_s0 [Lk] : (Int × List (Int × Int × Unit) × Int × Int × Unit) → Option ((Int × List (Int × Int × Unit) × Int × Int × Unit) ⊕ (Int × Unit) ⊕ (Unit) ⊕ Unit) := fun (a0, a1, a2, a3, _) =>
 match (ilt a3 a2) with
 | true => match idx a1 a3 with
  | none => none
  | some x0 => match (ilt (imin x0.1 x0.2.1) 0) with
   | true => some (.inr (.inl (10, ())))
   | false => match (ile a0 (imax x0.1 x0.2.1)) with
    | true => some (.inr (.inl (10, ())))
    | false => some (.inl (a0, a1, a2, (IntKind.wrap .i64 (a3 + 1)), ()))
 | false => some (.inr (.inr (.inl ())))
def sasked_d [Lk] : (Int × List (Int × Int × Unit) × Unit) → Option ((Int × Unit)) := fun (a0, a1, _) =>
 match (ilt a0 1) with
 | true => some (1, ())
 | false => match (ilt 64 a0) with
  | true => some (1, ())
  | false => match iterL sasked_s0 many (a0, a1, (dlen a1), 0, ()) with
   | none => none
   | some r => match r with
    | .inl (o0, _) => some (o0, ())
    | .inr r => match r with
     | .inl _ => some (0, ())
     | .inr _ => none
def sasked [Lk] := fun v => Lk.f (sasked_d v)
theorem sasked_eq v : sasked v = sasked_d v := lock_eq _
-- archipelago/span.alone
abbrev salone_i : Items := [(.tmp 0, .di)]
abbrev salone_o : Items := [(.tmp 0, .own 3 (.int .i64))]
abbrev salone_r : List RS := [.one]
abbrev salone_i0 : Items := [(.tmp 3, .own 3 (.int .i64)), (.tmp 8, .di), (.tmp 9, .di)]
abbrev salone_o0 : Outs := [(.exit 0, [(.tmp 3, .own 3 (.int .i64))])]
def salone_s0 [Lk] : (List Int × Int × Int × Unit) → Option ((List Int × Int × Int × Unit) ⊕ (List Int × Unit) ⊕ Unit) := fun (a0, a1, a2, _) =>
 match (ilt a2 a1) with
 | true => match idx a0 a2 with
  | none => none
  | some x0 => some (.inl ((dset a0 (dnat a2) a2), a1, (IntKind.wrap .i64 (a2 + 1)), ()))
 | false => some (.inr (.inl (a0, ())))
def salone_d [Lk] : (Int × Unit) → Option ((List Int × Unit)) := fun (a0, _) =>
 match (fitsI a0 && fitsI a0 && ile a0 a0 && true) with
 | true => match iterL salone_s0 many ((drep (dnat a0) (0 : Int)), (dlen (drep (dnat a0) (0 : Int))), (0 : Int), ()) with
  | none => none
  | some r => match r with
   | .inl (o0, _) => some (o0, ())
   | .inr _ => none
 | false => none
def salone [Lk] := fun v => Lk.f (salone_d v)
theorem salone_eq v : salone v = salone_d v := lock_eq _
-- (archipelago/span.sets).least
abbrev sleast_i : Items := [(.tmp 0, .own 3 (.int .i64)), (.tmp 1, .di)]
abbrev sleast_o : Items := [(.obj 0, .own 3 (.int .i64)), (.tmp 0, .di)]
abbrev sleast_r : List RS := [.one]
abbrev sleast_i0 : Items := [(.obj 0, .own 3 (.int .i64)), (.tmp 0, .own' 0), (.tmp 1, .di)]
abbrev sleast_o0 : Outs := [(.exit 0, [(.obj 0, .own 3 (.int .i64)), (.tmp 1, .di)])]
def sleast_s0 [Lk] : (List Int × Int × Unit) → Option ((List Int × Int × Unit) ⊕ (List Int × Int × Unit) ⊕ Unit) := fun (a0, a1, _) =>
 match idx a0 a1 with
 | none => none
 | some x0 => match (!(ieq (dget a0 (dnat a1) 0) a1)) with
  | true => match idx a0 a1 with
   | none => none
   | some x1 => match idx a0 (dget a0 (dnat a1) 0) with
    | none => none
    | some x2 => match idx a0 a1 with
     | none => none
     | some x3 => match idx (dset a0 (dnat a1) (dget a0 (dnat (dget a0 (dnat a1) 0)) 0)) a1 with
      | none => none
      | some x4 => some (.inl ((dset a0 (dnat a1) (dget a0 (dnat (dget a0 (dnat a1) 0)) 0)), (dget (dset a0 (dnat a1) (dget a0 (dnat (dget a0 (dnat a1) 0)) 0)) (dnat a1) 0), ()))
  | false => some (.inr (.inl (a0, a1, ())))
def sleast_d [Lk] : (List Int × Int × Unit) → Option ((List Int × Int × Unit)) := fun (a0, a1, _) =>
 match iterL sleast_s0 many (a0, a1, ()) with
 | none => none
 | some r => match r with
  | .inl (o0, o1, _) => some (o0, o1, ())
  | .inr _ => none
def sleast [Lk] := fun v => Lk.f (sleast_d v)
theorem sleast_eq v : sleast v = sleast_d v := lock_eq _
-- (archipelago/span.sets).join
abbrev sjoin_i : Items := [(.tmp 0, .own 3 (.int .i64)), (.tmp 1, .di), (.tmp 2, .di)]
abbrev sjoin_o : Items := [(.obj 0, .own 3 (.int .i64)), (.tmp 0, .dat .bool)]
abbrev sjoin_r : List RS := [.one]
def sjoin_d [Lk] : (List Int × Int × Int × Unit) → Option ((List Int × Bool × Unit)) := fun (a0, a1, a2, _) =>
 match sleast (a0, a1, ()) with
 | none => none
 | some (y0, y1, _) => match sleast (y0, a2, ()) with
  | none => none
  | some (y2, y3, _) => match idx y2 (imax y1 y3) with
   | none => none
   | some x4 => some ((dset y2 (dnat (imax y1 y3)) (imin y1 y3)), (!(ieq y1 y3)), ())
def sjoin [Lk] := fun v => Lk.f (sjoin_d v)
theorem sjoin_eq v : sjoin v = sjoin_d v := lock_eq _
-- archipelago/span.each
abbrev eachJoin_i : Items := [(.tmp 0, .dat (.slice (.prod (.int .i64) (.prod (.int .i64) .unit)))), (.cap 1 0, .own 3 (.int .i64)), (.tmp 1, .bnd 151 0)]
abbrev eachJoin_o : Items := [(.obj 0, .own 3 (.int .i64)), (.tmp 0, .own 4 .bool)]
abbrev eachJoin_r : List RS := [.one]
abbrev eachJoin_i0 : Items := [(.obj 0, .own 3 (.int .i64)), (.tmp 1, .bnd 151 0), (.tmp 5, .own 4 .bool), (.tmp 8, .dat (.slice (.prod (.int .i64) (.prod (.int .i64) .unit)))), (.tmp 9, .di), (.tmp 10, .di)]
abbrev eachJoin_o0 : Outs := [(.exit 0, [(.obj 0, .own 3 (.int .i64)), (.tmp 5, .own 4 .bool)])]
def eachJoin_s0 [Lk] : (List Int × List Bool × List (Int × Int × Unit) × Int × Int × Unit) → Option ((List Int × List Bool × List (Int × Int × Unit) × Int × Int × Unit) ⊕ (List Int × List Bool × Unit) ⊕ Unit) := fun (a0, a1, a2, a3, a4, _) =>
 match (ilt a4 a3) with
 | true => match idx a2 a4 with
  | none => none
  | some x0 => match sjoin (a0, x0.1, x0.2.1, ()) with
   | none => none
   | some (y1, y2, _) => match (fits ((dlen a1) + (dlen ([y2] : List (Bool))))) with
    | true => some (.inl (y1, (dapp a1 ([y2] : List (Bool))), a2, a3, (IntKind.wrap .i64 (a4 + 1)), ()))
    | false => none
 | false => some (.inr (.inl (a0, a1, ())))
def eachJoin_d [Lk] : (List (Int × Int × Unit) × List Int × Unit) → Option ((List Int × List Bool × Unit)) := fun (a0, a1, _) =>
 match iterL eachJoin_s0 many (a1, ([] : List (Bool)), a0, (dlen a0), 0, ()) with
 | none => none
 | some r => match r with
  | .inl (o0, o1, _) => some (o0, o1, ())
  | .inr _ => none
def eachJoin [Lk] := fun v => Lk.f (eachJoin_d v)
theorem eachJoin_eq v : eachJoin v = eachJoin_d v := lock_eq _
-- (archipelago/span.sets).joins
abbrev sjoins_i : Items := [(.tmp 0, .own 3 (.int .i64)), (.tmp 1, .dat (.slice (.prod (.int .i64) (.prod (.int .i64) .unit))))]
abbrev sjoins_o : Items := [(.obj 0, .own 3 (.int .i64)), (.tmp 0, .own 4 .bool)]
abbrev sjoins_r : List RS := [.one]
def sjoins_d [Lk] : (List Int × List (Int × Int × Unit) × Unit) → Option ((List Int × List Bool × Unit)) := fun (a0, a1, _) =>
 match eachJoin (a1, a0, ()) with
 | none => none
 | some (y0, y1, _) => some (y0, y1, ())
def sjoins [Lk] := fun v => Lk.f (sjoins_d v)
theorem sjoins_eq v : sjoins v = sjoins_d v := lock_eq _
-- archipelago/span.Classes
abbrev sclasses_i : Items := [(.tmp 0, .di), (.tmp 1, .dat (.slice (.prod (.int .i64) (.prod (.int .i64) .unit))))]
abbrev sclasses_o : Items := [(.tmp 0, .own 3 (.int .i64)), (.tmp 1, .di)]
abbrev sclasses_r : List RS := [.one, .one]
abbrev sclasses_i0 : Items := [(.tmp 7, .own 3 (.int .i64)), (.tmp 21, .di), (.tmp 22, .di)]
abbrev sclasses_o0 : Outs := [(.exit 0, [(.tmp 7, .own 3 (.int .i64))])]
def sclasses_s0 [Lk] : (List Int × Int × Int × Unit) → Option ((List Int × Int × Int × Unit) ⊕ (List Int × Unit) ⊕ Unit) := fun (a0, a1, a2, _) =>
 match (ilt a2 a1) with
 | true => match sleast (a0, a2, ()) with
  | none => none
  | some (y0, y1, _) => match idx y0 a2 with
   | none => none
   | some x2 => some (.inl ((dset y0 (dnat a2) y1), a1, (IntKind.wrap .i64 (a2 + 1)), ()))
 | false => some (.inr (.inl (a0, ())))
def sclasses_d [Lk] : (Int × List (Int × Int × Unit) × Unit) → Option ((List Int × Int × Unit)) := fun (a0, a1, _) =>
 match sasked (a0, a1, ()) with
 | none => none
 | some (y0, _) => match (!(ieq y0 0)) with
  | true => some (([] : List (Int)), y0, ())
  | false => match salone (a0, ()) with
   | none => none
   | some (y1, _) => match sjoins (y1, a1, ()) with
    | none => none
    | some (y2, y3, _) => match iterL sclasses_s0 many (y2, (dlen y2), 0, ()) with
     | none => none
     | some r => match r with
      | .inl (o4, _) => some (o4, 0, ())
      | .inr _ => none
def sclasses [Lk] := fun v => Lk.f (sclasses_d v)
theorem sclasses_eq v : sclasses v = sclasses_d v := lock_eq _
-- archipelago/archipelagoref19.Classes
def classes19_s2 [Lk] : (Int × List (Int × Int × Unit) × List Int × Bool × Int × Unit) → Option ((Int × List (Int × Int × Unit) × List Int × Bool × Int × Unit) ⊕ (Int × List (Int × Int × Unit) × List Int × Bool × Unit) ⊕ Unit) := fun (a0, a1, a2, a3, a4, _) =>
 match (ilt a4 (dlen a1)) with
 | true => match idx a1 a4 with
  | none => none
  | some x0 => match idx a1 a4 with
   | none => none
   | some x1 => match (ilt x0.1 0) with
    | true => some (.inl (a0, a1, a2, a3, (IntKind.wrap .i64 (a4 + 1)), ()))
    | false => match (ilt x1.2.1 0) with
     | true => some (.inl (a0, a1, a2, a3, (IntKind.wrap .i64 (a4 + 1)), ()))
     | false => match (ile a0 x0.1) with
      | true => some (.inl (a0, a1, a2, a3, (IntKind.wrap .i64 (a4 + 1)), ()))
      | false => match (ile a0 x1.2.1) with
       | true => some (.inl (a0, a1, a2, a3, (IntKind.wrap .i64 (a4 + 1)), ()))
       | false => match idx a2 x0.1 with
        | none => none
        | some x2 => match idx a2 x1.2.1 with
         | none => none
         | some x3 => match (ieq (dget a2 (dnat x0.1) 0) (dget a2 (dnat x1.2.1) 0)) with
          | true => some (.inl (a0, a1, a2, a3, (IntKind.wrap .i64 (a4 + 1)), ()))
          | false => match idx a2 x0.1 with
           | none => none
           | some x4 => match idx a2 x1.2.1 with
            | none => none
            | some x5 => match idx a2 x0.1 with
             | none => none
             | some x6 => match idx (dset a2 (dnat x0.1) (imin (dget a2 (dnat x0.1) 0) (dget a2 (dnat x1.2.1) 0))) x1.2.1 with
              | none => none
              | some x7 => some (.inl (a0, a1, (dset (dset a2 (dnat x0.1) (imin (dget a2 (dnat x0.1) 0) (dget a2 (dnat x1.2.1) 0))) (dnat x1.2.1) (imin (dget a2 (dnat x0.1) 0) (dget a2 (dnat x1.2.1) 0))), true, (IntKind.wrap .i64 (a4 + 1)), ()))
 | false => some (.inr (.inl (a0, a1, a2, a3, ())))
def classes19_s1 [Lk] : (Int × List (Int × Int × Unit) × List Int × Bool × Unit) → Option ((Int × List (Int × Int × Unit) × List Int × Bool × Unit) ⊕ (List Int × Unit) ⊕ Unit) := fun (a0, a1, a2, a3, _) =>
 match a3 with
 | true => match iterL classes19_s2 many (a0, a1, a2, false, 0, ()) with
  | none => none
  | some r => match r with
   | .inl (o0, o1, o2, o3, _) => some (.inl (o0, o1, o2, o3, ()))
   | .inr _ => none
 | false => some (.inr (.inl (a2, ())))
def classes19_s0 [Lk] : (Int × List (Int × Int × Unit) × List Int × Int × Unit) → Option ((Int × List (Int × Int × Unit) × List Int × Int × Unit) ⊕ (Int × List (Int × Int × Unit) × List Int × Unit) ⊕ Unit) := fun (a0, a1, a2, a3, _) =>
 match (ilt a3 a0) with
 | true => match (fits ((dlen a2) + (dlen ([a3] : List (Int))))) with
  | true => some (.inl (a0, a1, (dapp a2 ([a3] : List (Int))), (IntKind.wrap .i64 (a3 + 1)), ()))
  | false => none
 | false => some (.inr (.inl (a0, a1, a2, ())))
def classes19_d [Lk] : (Int × List (Int × Int × Unit) × Unit) → Option ((List Int × Unit)) := fun (a0, a1, _) =>
 match iterL classes19_s0 many (a0, a1, ([] : List (Int)), 0, ()) with
 | none => none
 | some r => match r with
  | .inl (o0, o1, o2, _) => match iterL classes19_s1 many (o0, o1, o2, true, ()) with
   | none => none
   | some r => match r with
    | .inl (o3, _) => some (o3, ())
    | .inr _ => none
  | .inr _ => none
def classes19 [Lk] := fun v => Lk.f (classes19_d v)
theorem classes19_eq v : classes19 v = classes19_d v := lock_eq _
-- archipelago/archipelagoref21.Top
abbrev top21_i : Items := [(.tmp 0, .di)]
abbrev top21_o : Items := [(.tmp 0, .di)]
abbrev top21_r : List RS := [.one]
abbrev top21_i0 : Items := [(.tmp 3, .di), (.tmp 4, .di)]
abbrev top21_o0 : Outs := [(.exit 0, [(.tmp 3, .di)])]
def top21_s0 [Lk] : (Int × Int × Unit) → Option ((Int × Int × Unit) ⊕ (Int × Unit) ⊕ Unit) := fun (a0, a1, _) =>
 match (ilt 0 a1) with
 | true => match quo? .i64 a1 2 with
  | none => none
  | some x0 => some (.inl ((IntKind.wrap .i64 (a0 + 1)), x0, ()))
 | false => some (.inr (.inl (a0, ())))
def top21_d [Lk] : (Int × Unit) → Option ((Int × Unit)) := fun (a0, _) =>
 match (ilt a0 1) with
 | true => some (0, ())
 | false => match (ilt 64 a0) with
  | true => some (0, ())
  | false => match iterL top21_s0 many (0, (IntKind.wrap .i64 (a0 - 1)), ()) with
   | none => none
   | some r => match r with
    | .inl (o0, _) => some (o0, ())
    | .inr _ => none
def top21 [Lk] := fun v => Lk.f (top21_d v)
theorem top21_eq v : top21 v = top21_d v := lock_eq _
-- archipelago/archipelagoref21.Right
def right21_s1 [Lk] : (Int × List (Int × Int × Int × Bool × Unit) × List (Int × Int × Unit) × List Int × Int × Int × Unit) → Option ((Int × List (Int × Int × Int × Bool × Unit) × List (Int × Int × Unit) × List Int × Int × Int × Unit) ⊕ (Int × List (Int × Int × Int × Bool × Unit) × List (Int × Int × Unit) × Int × Unit) ⊕ Unit) := fun (a0, a1, a2, a3, a4, a5, _) =>
 match (ilt a5 a0) with
 | true => match idx a3 a5 with
  | none => none
  | some x0 => match (ieq (dget a3 (dnat a5) 0) a5) with
   | true => some (.inl (a0, a1, a2, a3, (IntKind.wrap .i64 (a4 + 1)), (IntKind.wrap .i64 (a5 + 1)), ()))
   | false => some (.inl (a0, a1, a2, a3, a4, (IntKind.wrap .i64 (a5 + 1)), ()))
 | false => some (.inr (.inl (a0, a1, a2, a4, ())))
def right21_s0 [Lk] : (Int × List (Int × Int × Int × Bool × Unit) × List (Int × Int × Unit) × Int × Unit) → Option ((Int × List (Int × Int × Int × Bool × Unit) × List (Int × Int × Unit) × Int × Unit) ⊕ (Bool × Unit) ⊕ (Int × List (Int × Int × Int × Bool × Unit) × List (Int × Int × Unit) × Unit) ⊕ Unit) := fun (a0, a1, a2, a3, _) =>
 match (ilt a3 (dlen a1)) with
 | true => match idx a1 a3 with
  | none => none
  | some x0 => match (ilt x0.1 0) with
   | true => some (.inr (.inl (false, ())))
   | false => match (ile x0.2.1 x0.1) with
    | true => some (.inr (.inl (false, ())))
    | false => match (ile a0 x0.2.1) with
     | true => some (.inr (.inl (false, ())))
     | false => match (ilt x0.2.2.1 0) with
      | true => some (.inr (.inl (false, ())))
      | false => match top21 (a0, ()) with
       | none => none
       | some (y1, _) => match (ilt y1 x0.2.2.1) with
        | true => some (.inr (.inl (false, ())))
        | false => match (ilt 0 a3) with
         | true => match idx a1 (IntKind.wrap .i64 (a3 - 1)) with
          | none => none
          | some x2 => match (ilt x0.1 x2.1) with
           | true => some (.inr (.inl (false, ())))
           | false => match idx a1 (IntKind.wrap .i64 (a3 - 1)) with
            | none => none
            | some x3 => match (ieq x3.1 x0.1) with
             | true => match idx a1 (IntKind.wrap .i64 (a3 - 1)) with
              | none => none
              | some x4 => match (ile x0.2.1 x4.2.1) with
               | true => some (.inr (.inl (false, ())))
               | false => match x0.2.2.2.1 with
                | true => match (fits ((dlen a2) + (dlen ([(x0.1, (x0.2.1, ()))] : List (Int × Int × Unit))))) with
                 | true => some (.inl (a0, a1, (dapp a2 ([(x0.1, (x0.2.1, ()))] : List (Int × Int × Unit))), (IntKind.wrap .i64 (a3 + 1)), ()))
                 | false => none
                | false => some (.inl (a0, a1, a2, (IntKind.wrap .i64 (a3 + 1)), ()))
             | false => match x0.2.2.2.1 with
              | true => match (fits ((dlen a2) + (dlen ([(x0.1, (x0.2.1, ()))] : List (Int × Int × Unit))))) with
               | true => some (.inl (a0, a1, (dapp a2 ([(x0.1, (x0.2.1, ()))] : List (Int × Int × Unit))), (IntKind.wrap .i64 (a3 + 1)), ()))
               | false => none
              | false => some (.inl (a0, a1, a2, (IntKind.wrap .i64 (a3 + 1)), ()))
         | false => match x0.2.2.2.1 with
          | true => match (fits ((dlen a2) + (dlen ([(x0.1, (x0.2.1, ()))] : List (Int × Int × Unit))))) with
           | true => some (.inl (a0, a1, (dapp a2 ([(x0.1, (x0.2.1, ()))] : List (Int × Int × Unit))), (IntKind.wrap .i64 (a3 + 1)), ()))
           | false => none
          | false => some (.inl (a0, a1, a2, (IntKind.wrap .i64 (a3 + 1)), ()))
 | false => some (.inr (.inr (.inl (a0, a1, a2, ()))))
def right21_d [Lk] : ((Int × (List (Int × Int × Int × Bool × Unit)) × Unit) × Unit) → Option ((Bool × Unit)) := fun (a0, _) =>
 match (ilt a0.1 1) with
 | true => some (false, ())
 | false => match (ilt 64 a0.1) with
  | true => some (false, ())
  | false => match (ilt 400 (dlen a0.2.1)) with
   | true => some (false, ())
   | false => match iterL right21_s0 many (a0.1, a0.2.1, ([] : List (Int × Int × Unit)), 0, ()) with
    | none => none
    | some r => match r with
     | .inl (o0, _) => some (o0, ())
     | .inr r => match r with
      | .inl (o1, o2, o3, _) => match classes19 (o1, o3, ()) with
       | none => none
       | some (y4, _) => match iterL right21_s1 many (o1, o2, o3, y4, 0, 0, ()) with
        | none => none
        | some r => match r with
         | .inl (o5, o6, o7, o8, _) => some ((ieq o8 (IntKind.wrap .i64 (o5 - (dlen o7)))), ())
         | .inr _ => none
      | .inr _ => none
def right21 [Lk] := fun v => Lk.f (right21_d v)
theorem right21_eq v : right21 v = right21_d v := lock_eq _
-- archipelago/archipelagoref21.Edges
-- archipelago/archipelagoref18.in
-- archipelago/archipelagoref18.Token
-- archipelago/archipelagoref18.Arc
-- archipelago/archipelagoref18.Make
-- archipelago/archipelagoref18.stands
-- archipelago/archipelagoref18.tree
-- archipelago/archipelagoref13.Place
-- archipelago/archipelagoref13.Right
-- archipelago/archipelagoref13.From
-- archipelago/archipelagoref13.Plain
-- archipelago/archipelagoref14.Lists
-- archipelago/archipelagoref18.Right
-- archipelago/archipelagoref18.place
-- archipelago/archipelagoref18.put
-- archipelago/archipelagoref18.without
-- archipelago/archipelagoref18.Link
-- archipelago/archipelagoref11.Same
abbrev same11_i : Items := [(.tmp 0, .dat (.slice (.prod (.int .i64) (.prod (.int .i64) .unit)))), (.tmp 1, .dat (.slice (.prod (.int .i64) (.prod (.int .i64) .unit))))]
abbrev same11_o : Items := [(.tmp 0, .dat .bool)]
abbrev same11_r : List RS := [.one]
abbrev same11_i0 : Items := [(.tmp 0, .dat (.slice (.prod (.int .i64) (.prod (.int .i64) .unit)))), (.tmp 1, .dat (.slice (.prod (.int .i64) (.prod (.int .i64) .unit)))), (.tmp 5, .di)]
abbrev same11_o0 : Outs := [(.ret, [(.tmp 4, .dat .bool)]), (.exit 0, [])]
def same11_s0 [Lk] : (List (Int × Int × Unit) × List (Int × Int × Unit) × Int × Unit) → Option ((List (Int × Int × Unit) × List (Int × Int × Unit) × Int × Unit) ⊕ (Bool × Unit) ⊕ (Unit) ⊕ Unit) := fun (a0, a1, a2, _) =>
 match (ilt a2 (dlen a0)) with
 | true => match idx a0 a2 with
  | none => none
  | some x0 => match idx a1 a2 with
   | none => none
   | some x1 => match (!(ieq x0.1 x1.1 && (ieq x0.2.1 x1.2.1 && true))) with
    | true => some (.inr (.inl (false, ())))
    | false => some (.inl (a0, a1, (IntKind.wrap .i64 (a2 + 1)), ()))
 | false => some (.inr (.inr (.inl ())))
def same11_d [Lk] : (List (Int × Int × Unit) × List (Int × Int × Unit) × Unit) → Option ((Bool × Unit)) := fun (a0, a1, _) =>
 match (!(ieq (dlen a0) (dlen a1))) with
 | true => some (false, ())
 | false => match iterL same11_s0 many (a0, a1, 0, ()) with
  | none => none
  | some r => match r with
   | .inl (o0, _) => some (o0, ())
   | .inr r => match r with
    | .inl _ => some (true, ())
    | .inr _ => none
def same11 [Lk] := fun v => Lk.f (same11_d v)
theorem same11_eq v : same11 v = same11_d v := lock_eq _
-- archipelago/tour.Of
abbrev tof_i : Items := [(.tmp 0, .dat (.prod (.int .i64) (.prod (.slice (.slice (.int .i64))) .unit))), (.tmp 1, .di)]
abbrev tof_o : Items := [(.tmp 0, .di)]
abbrev tof_r : List RS := [.one]
def tof_d [Lk] : ((Int × (List (List Int)) × Unit) × Int × Unit) → Option ((Int × Unit)) := fun (a0, a1, _) =>
 match tin (a0.1, a1, ()) with
 | none => none
 | some (y0, _) => match (!y0) with
  | true => some ((-1 : Int), ())
  | false => match tright ((a0.1, (a0.2.1, ())), ()) with
   | none => none
   | some (y1, _) => match (!y1) with
    | true => some ((-1 : Int), ())
    | false => match tplace ((a0.1, (a0.2.1, ())), a1, ()) with
     | none => none
     | some (y2, _) => some (y2, ())
def tof [Lk] := fun v => Lk.f (tof_d v)
theorem tof_eq v : tof v = tof_d v := lock_eq _
-- archipelago/archipelagoref19.there
-- archipelago/archipelagoref19.Links
-- archipelago/archipelagoref19.Of
-- archipelago/archipelagoref20.Choose
-- archipelago/archipelagoref21.Find
-- archipelago/archipelagoref21.Trees
-- archipelago/archipelagoref21.Forest
-- archipelago/archipelagoref21.Same
-- archipelago/archipelagoref22.Has
end
end Go.Pev
end
section
namespace Go.Pev
set_option maxRecDepth 100000
noncomputable section
attribute [local irreducible] fitsR fitsIR idxR sublR iltR ileR ieqR quoR remR shlR shrR cloneR iterO many IntKind.wrap dlen dset dget dapp dtake dcut drep dnat dclear imin imax lookupM storeM
-- archipelago/archipelagoref22.asked
-- archipelago/archipelagoref22.Plain
-- archipelago/archipelagoref22.New
-- archipelago/archipelagoref22.Fits
-- archipelago/archipelagoref22.Put
-- archipelago/archipelagoref22.Add
-- archipelago/level.Forest
abbrev lforest_i : Items := [(.tmp 0, .dat (.prod (.int .i64) (.prod (.slice (.prod (.int .i64) (.prod (.int .i64) (.prod (.int .i64) (.prod .bool .unit))))) .unit))), (.tmp 1, .di)]
abbrev lforest_o : Items := [(.tmp 0, .dat (.prod (.int .i64) (.prod (.slice (.slice (.int .i64))) .unit))), (.tmp 1, .di)]
abbrev lforest_r : List RS := [.one, .one]
def lforest_d [Lk] : ((Int × (List (Int × Int × Int × Bool × Unit)) × Unit) × Int × Unit) → Option (((Int × (List (List Int)) × Unit) × Int × Unit)) := fun (a0, a1, _) =>
 match lright ((a0.1, (a0.2.1, ())), ()) with
 | none => none
 | some (y0, _) => match (!y0) with
  | true => some ((0, (([] : List (List Int)), ())), 1, ())
  | false => match ltrees ((a0.1, (a0.2.1, ())), a1, ()) with
   | none => none
   | some (y1, _) => match fof (a0.1, y1, ()) with
    | none => none
    | some (y2, y3, _) => some ((y2.1, (y2.2.1, ())), y3, ())
def lforest [Lk] := fun v => Lk.f (lforest_d v)
theorem lforest_eq v : lforest v = lforest_d v := lock_eq _
-- archipelago/span.Count
abbrev scount_i : Items := [(.tmp 0, .di), (.tmp 1, .dat (.slice (.prod (.int .i64) (.prod (.int .i64) .unit))))]
abbrev scount_o : Items := [(.tmp 0, .di), (.tmp 1, .di)]
abbrev scount_r : List RS := [.one, .one]
abbrev scount_i0 : Items := [(.tmp 7, .di), (.tmp 8, .di), (.tmp 17, .own 3 (.int .i64)), (.tmp 18, .di), (.tmp 19, .di)]
abbrev scount_o0 : Outs := [(.exit 0, [(.tmp 7, .di), (.tmp 8, .di)])]
def scount_s0 [Lk] : (Int × Int × List Int × Int × Int × Unit) → Option ((Int × Int × List Int × Int × Int × Unit) ⊕ (Int × Int × Unit) ⊕ Unit) := fun (a0, a1, a2, a3, a4, _) =>
 match (ilt a4 a3) with
 | true => match idx a2 a4 with
  | none => none
  | some x0 => match (ieq (dget a2 (dnat a4) 0) a4) with
   | true => some (.inl (a0, (IntKind.wrap .i64 (a1 + 1)), a2, a3, (IntKind.wrap .i64 (a4 + 1)), ()))
   | false => some (.inl (a0, a1, a2, a3, (IntKind.wrap .i64 (a4 + 1)), ()))
 | false => some (.inr (.inl (a0, a1, ())))
def scount_d [Lk] : (Int × List (Int × Int × Unit) × Unit) → Option ((Int × Int × Unit)) := fun (a0, a1, _) =>
 match sclasses (a0, a1, ()) with
 | none => none
 | some (y0, y1, _) => match iterL scount_s0 many (y1, 0, y0, (dlen y0), 0, ()) with
  | none => none
  | some r => match r with
   | .inl (o2, o3, _) => some (o3, o2, ())
   | .inr _ => none
def scount [Lk] := fun v => Lk.f (scount_d v)
theorem scount_eq v : scount v = scount_d v := lock_eq _
-- archipelago/archipelagoref18.Of
-- cmp.Less[int]
-- slices.insertionSortOrdered[int]
-- slices.siftDownOrdered[int]
-- slices.heapSortOrdered[int]
-- slices.breakPatternsOrdered[int]
-- slices.order2Ordered[int]
-- slices.medianOrdered[int]
-- slices.medianAdjacentOrdered[int]
-- slices.choosePivotOrdered[int]
-- slices.reverseRangeOrdered[int]
-- slices.partialInsertionSortOrdered[int]
-- slices.partitionEqualOrdered[int]
-- slices.partitionOrdered[int]
-- slices.pdqsortOrdered[int]
-- slices.Sort[[]int,int]
-- archipelago/forest.Connected
abbrev fconn_i : Items := [(.tmp 0, .dat (.prod (.int .i64) (.prod (.slice (.slice (.int .i64))) .unit))), (.tmp 1, .di), (.tmp 2, .di)]
abbrev fconn_o : Items := [(.tmp 0, .dat .bool), (.tmp 1, .di)]
abbrev fconn_r : List RS := [.one, .one]
def fconn_d [Lk] : ((Int × (List (List Int)) × Unit) × Int × Int × Unit) → Option ((Bool × Int × Unit)) := fun (a0, a1, a2, _) =>
 match fthere ((a0.1, (a0.2.1, ())), ([a1, a2] : List (Int)), ()) with
 | none => none
 | some (y0, _) => match (!(ieq y0 0)) with
  | true => some (false, y0, ())
  | false => match tof ((a0.1, (a0.2.1, ())), a1, ()) with
   | none => none
   | some (y1, _) => match tof ((a0.1, (a0.2.1, ())), a2, ()) with
    | none => none
    | some (y2, _) => some ((ieq y1 y2), 0, ())
def fconn [Lk] := fun v => Lk.f (fconn_d v)
theorem fconn_eq v : fconn v = fconn_d v := lock_eq _
-- archipelago/forest.Size
abbrev fsize_i : Items := [(.tmp 0, .dat (.prod (.int .i64) (.prod (.slice (.slice (.int .i64))) .unit))), (.tmp 1, .di)]
abbrev fsize_o : Items := [(.tmp 0, .di), (.tmp 1, .di)]
abbrev fsize_r : List RS := [.one, .one]
def fsize_d [Lk] : ((Int × (List (List Int)) × Unit) × Int × Unit) → Option ((Int × Int × Unit)) := fun (a0, a1, _) =>
 match fthere ((a0.1, (a0.2.1, ())), ([a1] : List (Int)), ()) with
 | none => none
 | some (y0, _) => match (!(ieq y0 0)) with
  | true => some (0, y0, ())
  | false => match tof ((a0.1, (a0.2.1, ())), a1, ()) with
   | none => none
   | some (y1, _) => match idx a0.2.1 y1 with
    | none => none
    | some x2 => match quo? .i64 (IntKind.wrap .i64 ((dlen x2) + 2)) 3 with
     | none => none
     | some x3 => some (x3, 0, ())
def fsize [Lk] := fun v => Lk.f (fsize_d v)
theorem fsize_eq v : fsize v = fsize_d v := lock_eq _
-- archipelago/archipelagoref19.Connected
-- archipelago/archipelagoref18.Same
-- archipelago/sound.Best$1
abbrev snBest1_i : Items := [(.tmp 0, .dat (.prod (.int .i64) (.prod (.int .i64) (.prod (.int .i64) (.prod .bool .unit))))), (.tmp 1, .dat (.prod (.int .i64) (.prod (.int .i64) (.prod (.int .i64) (.prod .bool .unit)))))]
abbrev snBest1_o : Items := [(.tmp 0, .di)]
abbrev snBest1_r : List RS := [.one]
def snBest1_d [Lk] : ((Int × Int × Int × Bool × Unit) × (Int × Int × Int × Bool × Unit) × Unit) → Option ((Int × Unit)) := fun (a0, a1, _) =>
 match compareI (a1.2.2.1, a0.2.2.1, ()) with
 | none => none
 | some (y0, _) => some (y0, ())
def snBest1 [Lk] := fun v => Lk.f (snBest1_d v)
theorem snBest1_eq v : snBest1 v = snBest1_d v := lock_eq _
-- slices.insertionSortCmpFunc[archipelago/api.Tie]
abbrev insS_i : Items := [(.tmp 0, .own 44 (.prod (.int .i64) (.prod (.int .i64) (.prod (.int .i64) (.prod .bool .unit))))), (.tmp 1, .di), (.tmp 2, .di), (.tmp 3, .clo 73 [])]
abbrev insS_o : Items := [(.obj 0, .own 44 (.prod (.int .i64) (.prod (.int .i64) (.prod (.int .i64) (.prod .bool .unit)))))]
abbrev insS_r : List RS := []
abbrev insS_i1 : Items := [(.obj 0, .own 44 (.prod (.int .i64) (.prod (.int .i64) (.prod (.int .i64) (.prod .bool .unit))))), (.tmp 0, .own' 0), (.tmp 1, .di), (.tmp 2, .di), (.tmp 3, .clo 73 []), (.tmp 8, .di), (.tmp 9, .di)]
abbrev insS_o1 : Outs := [(.exit 2, [(.obj 0, .own 44 (.prod (.int .i64) (.prod (.int .i64) (.prod (.int .i64) (.prod .bool .unit))))), (.tmp 0, .own' 0), (.tmp 1, .di), (.tmp 2, .di), (.tmp 3, .clo 73 []), (.tmp 8, .di)])]
def insS_s1 [Lk] : (List (Int × Int × Int × Bool × Unit) × Int × Int × Int × Int × Unit) → Option ((List (Int × Int × Int × Bool × Unit) × Int × Int × Int × Int × Unit) ⊕ (List (Int × Int × Int × Bool × Unit) × Int × Int × Int × Unit) ⊕ Unit) := insG_s1 ((0, (0, (0, (false, ())))) : (Int × Int × Int × Bool × Unit)) snBest1
abbrev insS_i0 : Items := [(.obj 0, .own 44 (.prod (.int .i64) (.prod (.int .i64) (.prod (.int .i64) (.prod .bool .unit))))), (.tmp 0, .own' 0), (.tmp 1, .di), (.tmp 2, .di), (.tmp 3, .clo 73 []), (.tmp 8, .di)]
abbrev insS_o0 : Outs := [(.exit 0, [(.obj 0, .own 44 (.prod (.int .i64) (.prod (.int .i64) (.prod (.int .i64) (.prod .bool .unit)))))])]
def insS_s0 [Lk] : (List (Int × Int × Int × Bool × Unit) × Int × Int × Int × Unit) → Option ((List (Int × Int × Int × Bool × Unit) × Int × Int × Int × Unit) ⊕ (List (Int × Int × Int × Bool × Unit) × Unit) ⊕ Unit) := insG_s0 ((0, (0, (0, (false, ())))) : (Int × Int × Int × Bool × Unit)) snBest1
def insS_d [Lk] : (List (Int × Int × Int × Bool × Unit) × Int × Int × Unit) → Option ((List (Int × Int × Int × Bool × Unit) × Unit)) := insG_d ((0, (0, (0, (false, ())))) : (Int × Int × Int × Bool × Unit)) snBest1
def insS [Lk] (v : (List (Int × Int × Int × Bool × Unit) × Int × Int × Unit)) : Option ((List (Int × Int × Int × Bool × Unit) × Unit)) := insG ((0, (0, (0, (false, ())))) : (Int × Int × Int × Bool × Unit)) snBest1 v
theorem insS_eq v : insS v = insS_d v := lock_eq _
-- slices.swapRangeCmpFunc[archipelago/api.Tie]
abbrev swapS_i : Items := [(.tmp 0, .own 44 (.prod (.int .i64) (.prod (.int .i64) (.prod (.int .i64) (.prod .bool .unit))))), (.tmp 1, .di), (.tmp 2, .di), (.tmp 3, .di), (.tmp 4, .clo 73 [])]
abbrev swapS_o : Items := [(.obj 0, .own 44 (.prod (.int .i64) (.prod (.int .i64) (.prod (.int .i64) (.prod .bool .unit)))))]
abbrev swapS_r : List RS := []
abbrev swapS_i0 : Items := [(.obj 0, .own 44 (.prod (.int .i64) (.prod (.int .i64) (.prod (.int .i64) (.prod .bool .unit))))), (.tmp 0, .own' 0), (.tmp 1, .di), (.tmp 2, .di), (.tmp 3, .di), (.tmp 10, .di)]
abbrev swapS_o0 : Outs := [(.exit 0, [(.obj 0, .own 44 (.prod (.int .i64) (.prod (.int .i64) (.prod (.int .i64) (.prod .bool .unit)))))])]
def swapS_s0 [Lk] : (List (Int × Int × Int × Bool × Unit) × Int × Int × Int × Int × Unit) → Option ((List (Int × Int × Int × Bool × Unit) × Int × Int × Int × Int × Unit) ⊕ (List (Int × Int × Int × Bool × Unit) × Unit) ⊕ Unit) := fun (a0, a1, a2, a3, a4, _) =>
 match (ilt a4 a3) with
 | true => match idx a0 (IntKind.wrap .i64 (a2 + a4)) with
  | none => none
  | some x0 => match idx a0 (IntKind.wrap .i64 (a1 + a4)) with
   | none => none
   | some x1 => match idx a0 (IntKind.wrap .i64 (a1 + a4)) with
    | none => none
    | some x2 => match idx (dset a0 (dnat (IntKind.wrap .i64 (a1 + a4))) ((dget a0 (dnat (IntKind.wrap .i64 (a2 + a4))) (0, (0, (0, (false, ()))))).1, ((dget a0 (dnat (IntKind.wrap .i64 (a2 + a4))) (0, (0, (0, (false, ()))))).2.1, ((dget a0 (dnat (IntKind.wrap .i64 (a2 + a4))) (0, (0, (0, (false, ()))))).2.2.1, ((dget a0 (dnat (IntKind.wrap .i64 (a2 + a4))) (0, (0, (0, (false, ()))))).2.2.2.1, ()))))) (IntKind.wrap .i64 (a2 + a4)) with
     | none => none
     | some x3 => some (.inl ((dset (dset a0 (dnat (IntKind.wrap .i64 (a1 + a4))) ((dget a0 (dnat (IntKind.wrap .i64 (a2 + a4))) (0, (0, (0, (false, ()))))).1, ((dget a0 (dnat (IntKind.wrap .i64 (a2 + a4))) (0, (0, (0, (false, ()))))).2.1, ((dget a0 (dnat (IntKind.wrap .i64 (a2 + a4))) (0, (0, (0, (false, ()))))).2.2.1, ((dget a0 (dnat (IntKind.wrap .i64 (a2 + a4))) (0, (0, (0, (false, ()))))).2.2.2.1, ()))))) (dnat (IntKind.wrap .i64 (a2 + a4))) ((dget a0 (dnat (IntKind.wrap .i64 (a1 + a4))) (0, (0, (0, (false, ()))))).1, ((dget a0 (dnat (IntKind.wrap .i64 (a1 + a4))) (0, (0, (0, (false, ()))))).2.1, ((dget a0 (dnat (IntKind.wrap .i64 (a1 + a4))) (0, (0, (0, (false, ()))))).2.2.1, ((dget a0 (dnat (IntKind.wrap .i64 (a1 + a4))) (0, (0, (0, (false, ()))))).2.2.2.1, ()))))), a1, a2, a3, (IntKind.wrap .i64 (a4 + 1)), ()))
 | false => some (.inr (.inl (a0, ())))
def swapS_d [Lk] : (List (Int × Int × Int × Bool × Unit) × Int × Int × Int × Unit) → Option ((List (Int × Int × Int × Bool × Unit) × Unit)) := fun (a0, a1, a2, a3, _) =>
 match iterL swapS_s0 many (a0, a1, a2, a3, 0, ()) with
 | none => none
 | some r => match r with
  | .inl (o0, _) => some (o0, ())
  | .inr _ => none
def swapS [Lk] := fun v => Lk.f (swapS_d v)
theorem swapS_eq v : swapS v = swapS_d v := lock_eq _
-- slices.rotateCmpFunc[archipelago/api.Tie]
abbrev rotS_i : Items := [(.tmp 0, .own 44 (.prod (.int .i64) (.prod (.int .i64) (.prod (.int .i64) (.prod .bool .unit))))), (.tmp 1, .di), (.tmp 2, .di), (.tmp 3, .di), (.tmp 4, .clo 73 [])]
abbrev rotS_o : Items := [(.obj 0, .own 44 (.prod (.int .i64) (.prod (.int .i64) (.prod (.int .i64) (.prod .bool .unit)))))]
abbrev rotS_r : List RS := []
abbrev rotS_i0 : Items := [(.obj 0, .own 44 (.prod (.int .i64) (.prod (.int .i64) (.prod (.int .i64) (.prod .bool .unit))))), (.tmp 0, .own' 0), (.tmp 2, .di), (.tmp 4, .clo 73 []), (.tmp 10, .di), (.tmp 11, .di)]
abbrev rotS_o0 : Outs := [(.exit 0, [(.obj 0, .own 44 (.prod (.int .i64) (.prod (.int .i64) (.prod (.int .i64) (.prod .bool .unit))))), (.tmp 0, .own' 0), (.tmp 2, .di), (.tmp 4, .clo 73 []), (.tmp 10, .di)])]
def rotS_s0 [Lk] : (List (Int × Int × Int × Bool × Unit) × Int × Int × Int × Unit) → Option ((List (Int × Int × Int × Bool × Unit) × Int × Int × Int × Unit) ⊕ (List (Int × Int × Int × Bool × Unit) × Int × Int × Unit) ⊕ Unit) := fun (a0, a1, a2, a3, _) =>
 match (!(ieq a2 a3)) with
 | true => match (ilt a3 a2) with
  | true => match swapS (a0, (IntKind.wrap .i64 (a1 - a2)), a1, a3, ()) with
   | none => none
   | some (y0, _) => some (.inl (y0, a1, (IntKind.wrap .i64 (a2 - a3)), a3, ()))
  | false => match swapS (a0, (IntKind.wrap .i64 (a1 - a2)), (IntKind.wrap .i64 ((IntKind.wrap .i64 (a1 + a3)) - a2)), a2, ()) with
   | none => none
   | some (y1, _) => some (.inl (y1, a1, a2, (IntKind.wrap .i64 (a3 - a2)), ()))
 | false => some (.inr (.inl (a0, a1, a2, ())))
def rotS_d [Lk] : (List (Int × Int × Int × Bool × Unit) × Int × Int × Int × Unit) → Option ((List (Int × Int × Int × Bool × Unit) × Unit)) := fun (a0, a1, a2, a3, _) =>
 match iterL rotS_s0 many (a0, a2, (IntKind.wrap .i64 (a2 - a1)), (IntKind.wrap .i64 (a3 - a2)), ()) with
 | none => none
 | some r => match r with
  | .inl (o0, o1, o2, _) => match swapS (o0, (IntKind.wrap .i64 (o1 - o2)), o1, o2, ()) with
   | none => none
   | some (y3, _) => some (y3, ())
  | .inr _ => none
def rotS [Lk] := fun v => Lk.f (rotS_d v)
theorem rotS_eq v : rotS v = rotS_d v := lock_eq _
-- slices.symMergeCmpFunc[archipelago/api.Tie]
abbrev symS_i : Items := [(.tmp 0, .own 44 (.prod (.int .i64) (.prod (.int .i64) (.prod (.int .i64) (.prod .bool .unit))))), (.tmp 1, .di), (.tmp 2, .di), (.tmp 3, .di), (.tmp 4, .clo 73 [])]
abbrev symS_o : Items := [(.obj 0, .own 44 (.prod (.int .i64) (.prod (.int .i64) (.prod (.int .i64) (.prod .bool .unit)))))]
abbrev symS_r : List RS := []
abbrev symS_i4 : Items := [(.obj 0, .own 44 (.prod (.int .i64) (.prod (.int .i64) (.prod (.int .i64) (.prod .bool .unit))))), (.tmp 0, .own' 0), (.tmp 1, .di), (.tmp 2, .di), (.tmp 3, .di), (.tmp 4, .clo 73 []), (.tmp 18, .di), (.tmp 19, .di), (.tmp 20, .di), (.tmp 21, .di), (.tmp 22, .di)]
abbrev symS_o4 : Outs := [(.exit 8, [(.obj 0, .own 44 (.prod (.int .i64) (.prod (.int .i64) (.prod (.int .i64) (.prod .bool .unit))))), (.tmp 0, .own' 0), (.tmp 1, .di), (.tmp 2, .di), (.tmp 3, .di), (.tmp 4, .clo 73 []), (.tmp 18, .di), (.tmp 19, .di), (.tmp 20, .di)])]
def symS_s4 [Lk] (self : (List (Int × Int × Int × Bool × Unit) × Int × Int × Int × Unit) → Option ((List (Int × Int × Int × Bool × Unit) × Unit))) : (List (Int × Int × Int × Bool × Unit) × Int × Int × Int × Int × Int × Int × Int × Int × Unit) → Option ((List (Int × Int × Int × Bool × Unit) × Int × Int × Int × Int × Int × Int × Int × Int × Unit) ⊕ (List (Int × Int × Int × Bool × Unit) × Int × Int × Int × Int × Int × Int × Unit) ⊕ Unit) := fun (a0, a1, a2, a3, a4, a5, a6, a7, a8, _) =>
 match (ilt a6 a7) with
 | true => match shr? .u64 (IntKind.wrap .u64 (IntKind.wrap .i64 (a6 + a7))) 1 with
  | none => none
  | some x0 => match idx a0 (IntKind.wrap .i64 (a8 - (IntKind.wrap .i64 x0))) with
   | none => none
   | some x1 => match idx a0 (IntKind.wrap .i64 x0) with
    | none => none
    | some x2 => match snBest1 (((dget a0 (dnat (IntKind.wrap .i64 (a8 - (IntKind.wrap .i64 x0)))) (0, (0, (0, (false, ()))))).1, ((dget a0 (dnat (IntKind.wrap .i64 (a8 - (IntKind.wrap .i64 x0)))) (0, (0, (0, (false, ()))))).2.1, ((dget a0 (dnat (IntKind.wrap .i64 (a8 - (IntKind.wrap .i64 x0)))) (0, (0, (0, (false, ()))))).2.2.1, ((dget a0 (dnat (IntKind.wrap .i64 (a8 - (IntKind.wrap .i64 x0)))) (0, (0, (0, (false, ()))))).2.2.2.1, ())))), ((dget a0 (dnat (IntKind.wrap .i64 x0)) (0, (0, (0, (false, ()))))).1, ((dget a0 (dnat (IntKind.wrap .i64 x0)) (0, (0, (0, (false, ()))))).2.1, ((dget a0 (dnat (IntKind.wrap .i64 x0)) (0, (0, (0, (false, ()))))).2.2.1, ((dget a0 (dnat (IntKind.wrap .i64 x0)) (0, (0, (0, (false, ()))))).2.2.2.1, ())))), ()) with
     | none => none
     | some (y3, _) => match (!(ilt y3 0)) with
      | true => some (.inl (a0, a1, a2, a3, a4, a5, (IntKind.wrap .i64 ((IntKind.wrap .i64 x0) + 1)), a7, a8, ()))
      | false => some (.inl (a0, a1, a2, a3, a4, a5, a6, (IntKind.wrap .i64 x0), a8, ()))
 | false => some (.inr (.inl (a0, a1, a2, a3, a4, a5, a6, ())))
abbrev symS_i3 : Items := [(.obj 0, .own 44 (.prod (.int .i64) (.prod (.int .i64) (.prod (.int .i64) (.prod .bool .unit))))), (.tmp 0, .own' 0), (.tmp 14, .di), (.tmp 17, .di)]
abbrev symS_o3 : Outs := [(.exit 6, [(.obj 0, .own 44 (.prod (.int .i64) (.prod (.int .i64) (.prod (.int .i64) (.prod .bool .unit)))))])]
def symS_s3 [Lk] (self : (List (Int × Int × Int × Bool × Unit) × Int × Int × Int × Unit) → Option ((List (Int × Int × Int × Bool × Unit) × Unit))) : (List (Int × Int × Int × Bool × Unit) × Int × Int × Unit) → Option ((List (Int × Int × Int × Bool × Unit) × Int × Int × Unit) ⊕ (List (Int × Int × Int × Bool × Unit) × Unit) ⊕ Unit) := fun (a0, a1, a2, _) =>
 match (ilt a1 a2) with
 | true => match idx a0 (IntKind.wrap .i64 (a2 - 1)) with
  | none => none
  | some x0 => match idx a0 a2 with
   | none => none
   | some x1 => match idx a0 a2 with
    | none => none
    | some x2 => match idx (dset a0 (dnat a2) ((dget a0 (dnat (IntKind.wrap .i64 (a2 - 1))) (0, (0, (0, (false, ()))))).1, ((dget a0 (dnat (IntKind.wrap .i64 (a2 - 1))) (0, (0, (0, (false, ()))))).2.1, ((dget a0 (dnat (IntKind.wrap .i64 (a2 - 1))) (0, (0, (0, (false, ()))))).2.2.1, ((dget a0 (dnat (IntKind.wrap .i64 (a2 - 1))) (0, (0, (0, (false, ()))))).2.2.2.1, ()))))) (IntKind.wrap .i64 (a2 - 1)) with
     | none => none
     | some x3 => some (.inl ((dset (dset a0 (dnat a2) ((dget a0 (dnat (IntKind.wrap .i64 (a2 - 1))) (0, (0, (0, (false, ()))))).1, ((dget a0 (dnat (IntKind.wrap .i64 (a2 - 1))) (0, (0, (0, (false, ()))))).2.1, ((dget a0 (dnat (IntKind.wrap .i64 (a2 - 1))) (0, (0, (0, (false, ()))))).2.2.1, ((dget a0 (dnat (IntKind.wrap .i64 (a2 - 1))) (0, (0, (0, (false, ()))))).2.2.2.1, ()))))) (dnat (IntKind.wrap .i64 (a2 - 1))) ((dget a0 (dnat a2) (0, (0, (0, (false, ()))))).1, ((dget a0 (dnat a2) (0, (0, (0, (false, ()))))).2.1, ((dget a0 (dnat a2) (0, (0, (0, (false, ()))))).2.2.1, ((dget a0 (dnat a2) (0, (0, (0, (false, ()))))).2.2.2.1, ()))))), a1, (IntKind.wrap .i64 (a2 - 1)), ()))
 | false => some (.inr (.inl (a0, ())))
abbrev symS_i2 : Items := [(.obj 0, .own 44 (.prod (.int .i64) (.prod (.int .i64) (.prod (.int .i64) (.prod .bool .unit))))), (.tmp 0, .own' 0), (.tmp 2, .di), (.tmp 4, .clo 73 []), (.tmp 14, .di), (.tmp 15, .di)]
abbrev symS_o2 : Outs := [(.exit 4, [(.obj 0, .own 44 (.prod (.int .i64) (.prod (.int .i64) (.prod (.int .i64) (.prod .bool .unit))))), (.tmp 0, .own' 0), (.tmp 2, .di), (.tmp 14, .di)])]
def symS_s2 [Lk] (self : (List (Int × Int × Int × Bool × Unit) × Int × Int × Int × Unit) → Option ((List (Int × Int × Int × Bool × Unit) × Unit))) : (List (Int × Int × Int × Bool × Unit) × Int × Int × Int × Unit) → Option ((List (Int × Int × Int × Bool × Unit) × Int × Int × Int × Unit) ⊕ (List (Int × Int × Int × Bool × Unit) × Int × Int × Unit) ⊕ Unit) := fun (a0, a1, a2, a3, _) =>
 match (ilt a2 a3) with
 | true => match shr? .u64 (IntKind.wrap .u64 (IntKind.wrap .i64 (a2 + a3))) 1 with
  | none => none
  | some x0 => match idx a0 a1 with
   | none => none
   | some x1 => match idx a0 (IntKind.wrap .i64 x0) with
    | none => none
    | some x2 => match snBest1 (((dget a0 (dnat a1) (0, (0, (0, (false, ()))))).1, ((dget a0 (dnat a1) (0, (0, (0, (false, ()))))).2.1, ((dget a0 (dnat a1) (0, (0, (0, (false, ()))))).2.2.1, ((dget a0 (dnat a1) (0, (0, (0, (false, ()))))).2.2.2.1, ())))), ((dget a0 (dnat (IntKind.wrap .i64 x0)) (0, (0, (0, (false, ()))))).1, ((dget a0 (dnat (IntKind.wrap .i64 x0)) (0, (0, (0, (false, ()))))).2.1, ((dget a0 (dnat (IntKind.wrap .i64 x0)) (0, (0, (0, (false, ()))))).2.2.1, ((dget a0 (dnat (IntKind.wrap .i64 x0)) (0, (0, (0, (false, ()))))).2.2.2.1, ())))), ()) with
     | none => none
     | some (y3, _) => match (!(ilt y3 0)) with
      | true => some (.inl (a0, a1, (IntKind.wrap .i64 ((IntKind.wrap .i64 x0) + 1)), a3, ()))
      | false => some (.inl (a0, a1, a2, (IntKind.wrap .i64 x0), ()))
 | false => some (.inr (.inl (a0, a1, a2, ())))
abbrev symS_i1 : Items := [(.obj 0, .own 44 (.prod (.int .i64) (.prod (.int .i64) (.prod (.int .i64) (.prod .bool .unit))))), (.tmp 0, .own' 0), (.tmp 10, .di), (.tmp 13, .di)]
abbrev symS_o1 : Outs := [(.exit 2, [(.obj 0, .own 44 (.prod (.int .i64) (.prod (.int .i64) (.prod (.int .i64) (.prod .bool .unit)))))])]
def symS_s1 [Lk] (self : (List (Int × Int × Int × Bool × Unit) × Int × Int × Int × Unit) → Option ((List (Int × Int × Int × Bool × Unit) × Unit))) : (List (Int × Int × Int × Bool × Unit) × Int × Int × Unit) → Option ((List (Int × Int × Int × Bool × Unit) × Int × Int × Unit) ⊕ (List (Int × Int × Int × Bool × Unit) × Unit) ⊕ Unit) := fun (a0, a1, a2, _) =>
 match (ilt a2 (IntKind.wrap .i64 (a1 - 1))) with
 | true => match idx a0 (IntKind.wrap .i64 (a2 + 1)) with
  | none => none
  | some x0 => match idx a0 a2 with
   | none => none
   | some x1 => match idx a0 a2 with
    | none => none
    | some x2 => match idx (dset a0 (dnat a2) ((dget a0 (dnat (IntKind.wrap .i64 (a2 + 1))) (0, (0, (0, (false, ()))))).1, ((dget a0 (dnat (IntKind.wrap .i64 (a2 + 1))) (0, (0, (0, (false, ()))))).2.1, ((dget a0 (dnat (IntKind.wrap .i64 (a2 + 1))) (0, (0, (0, (false, ()))))).2.2.1, ((dget a0 (dnat (IntKind.wrap .i64 (a2 + 1))) (0, (0, (0, (false, ()))))).2.2.2.1, ()))))) (IntKind.wrap .i64 (a2 + 1)) with
     | none => none
     | some x3 => some (.inl ((dset (dset a0 (dnat a2) ((dget a0 (dnat (IntKind.wrap .i64 (a2 + 1))) (0, (0, (0, (false, ()))))).1, ((dget a0 (dnat (IntKind.wrap .i64 (a2 + 1))) (0, (0, (0, (false, ()))))).2.1, ((dget a0 (dnat (IntKind.wrap .i64 (a2 + 1))) (0, (0, (0, (false, ()))))).2.2.1, ((dget a0 (dnat (IntKind.wrap .i64 (a2 + 1))) (0, (0, (0, (false, ()))))).2.2.2.1, ()))))) (dnat (IntKind.wrap .i64 (a2 + 1))) ((dget a0 (dnat a2) (0, (0, (0, (false, ()))))).1, ((dget a0 (dnat a2) (0, (0, (0, (false, ()))))).2.1, ((dget a0 (dnat a2) (0, (0, (0, (false, ()))))).2.2.1, ((dget a0 (dnat a2) (0, (0, (0, (false, ()))))).2.2.2.1, ()))))), a1, (IntKind.wrap .i64 (a2 + 1)), ()))
 | false => some (.inr (.inl (a0, ())))
abbrev symS_i0 : Items := [(.obj 0, .own 44 (.prod (.int .i64) (.prod (.int .i64) (.prod (.int .i64) (.prod .bool .unit))))), (.tmp 0, .own' 0), (.tmp 1, .di), (.tmp 4, .clo 73 []), (.tmp 10, .di), (.tmp 11, .di)]
abbrev symS_o0 : Outs := [(.exit 0, [(.obj 0, .own 44 (.prod (.int .i64) (.prod (.int .i64) (.prod (.int .i64) (.prod .bool .unit))))), (.tmp 0, .own' 0), (.tmp 1, .di), (.tmp 10, .di)])]
def symS_s0 [Lk] (self : (List (Int × Int × Int × Bool × Unit) × Int × Int × Int × Unit) → Option ((List (Int × Int × Int × Bool × Unit) × Unit))) : (List (Int × Int × Int × Bool × Unit) × Int × Int × Int × Unit) → Option ((List (Int × Int × Int × Bool × Unit) × Int × Int × Int × Unit) ⊕ (List (Int × Int × Int × Bool × Unit) × Int × Int × Unit) ⊕ Unit) := fun (a0, a1, a2, a3, _) =>
 match (ilt a2 a3) with
 | true => match shr? .u64 (IntKind.wrap .u64 (IntKind.wrap .i64 (a2 + a3))) 1 with
  | none => none
  | some x0 => match idx a0 (IntKind.wrap .i64 x0) with
   | none => none
   | some x1 => match idx a0 a1 with
    | none => none
    | some x2 => match snBest1 (((dget a0 (dnat (IntKind.wrap .i64 x0)) (0, (0, (0, (false, ()))))).1, ((dget a0 (dnat (IntKind.wrap .i64 x0)) (0, (0, (0, (false, ()))))).2.1, ((dget a0 (dnat (IntKind.wrap .i64 x0)) (0, (0, (0, (false, ()))))).2.2.1, ((dget a0 (dnat (IntKind.wrap .i64 x0)) (0, (0, (0, (false, ()))))).2.2.2.1, ())))), ((dget a0 (dnat a1) (0, (0, (0, (false, ()))))).1, ((dget a0 (dnat a1) (0, (0, (0, (false, ()))))).2.1, ((dget a0 (dnat a1) (0, (0, (0, (false, ()))))).2.2.1, ((dget a0 (dnat a1) (0, (0, (0, (false, ()))))).2.2.2.1, ())))), ()) with
     | none => none
     | some (y3, _) => match (ilt y3 0) with
      | true => some (.inl (a0, a1, (IntKind.wrap .i64 ((IntKind.wrap .i64 x0) + 1)), a3, ()))
      | false => some (.inl (a0, a1, a2, (IntKind.wrap .i64 x0), ()))
 | false => some (.inr (.inl (a0, a1, a2, ())))
def symS_d [Lk] (self : (List (Int × Int × Int × Bool × Unit) × Int × Int × Int × Unit) → Option ((List (Int × Int × Int × Bool × Unit) × Unit))) : (List (Int × Int × Int × Bool × Unit) × Int × Int × Int × Unit) → Option ((List (Int × Int × Int × Bool × Unit) × Unit)) := fun (a0, a1, a2, a3, _) =>
 match (ieq (IntKind.wrap .i64 (a2 - a1)) 1) with
 | true => match iterL (symS_s0 self) many (a0, a1, a2, a3, ()) with
  | none => none
  | some r => match r with
   | .inl (o0, o1, o2, _) => match iterL (symS_s1 self) many (o0, o2, o1, ()) with
    | none => none
    | some r => match r with
     | .inl (o3, _) => some (o3, ())
     | .inr _ => none
   | .inr _ => none
 | false => match (ieq (IntKind.wrap .i64 (a3 - a2)) 1) with
  | true => match iterL (symS_s2 self) many (a0, a2, a1, a2, ()) with
   | none => none
   | some r => match r with
    | .inl (o4, o5, o6, _) => match iterL (symS_s3 self) many (o4, o6, o5, ()) with
     | none => none
     | some r => match r with
      | .inl (o7, _) => some (o7, ())
      | .inr _ => none
    | .inr _ => none
  | false => match shr? .u64 (IntKind.wrap .u64 (IntKind.wrap .i64 (a1 + a3))) 1 with
   | none => none
   | some x8 => match (ilt (IntKind.wrap .i64 x8) a2) with
    | true => match iterL (symS_s4 self) many (a0, a1, a2, a3, (IntKind.wrap .i64 x8), (IntKind.wrap .i64 ((IntKind.wrap .i64 x8) + a2)), (IntKind.wrap .i64 ((IntKind.wrap .i64 ((IntKind.wrap .i64 x8) + a2)) - a3)), (IntKind.wrap .i64 x8), (IntKind.wrap .i64 ((IntKind.wrap .i64 ((IntKind.wrap .i64 x8) + a2)) - 1)), ()) with
     | none => none
     | some r => match r with
      | .inl (o9, o10, o11, o12, o13, o14, o15, _) => match (ilt o15 o11) with
       | true => match (ilt o11 (IntKind.wrap .i64 (o14 - o15))) with
        | true => match rotS (o9, o15, o11, (IntKind.wrap .i64 (o14 - o15)), ()) with
         | none => none
         | some (y16, _) => match (ilt o10 o15) with
          | true => match (ilt o15 o13) with
           | true => match self (y16, o10, o15, o13, ()) with
            | none => none
            | some (y17, _) => match (ilt o13 (IntKind.wrap .i64 (o14 - o15))) with
             | true => match (ilt (IntKind.wrap .i64 (o14 - o15)) o12) with
              | true => match self (y17, o13, (IntKind.wrap .i64 (o14 - o15)), o12, ()) with
               | none => none
               | some (y18, _) => some (y18, ())
              | false => some (y17, ())
             | false => some (y17, ())
           | false => match (ilt o13 (IntKind.wrap .i64 (o14 - o15))) with
            | true => match (ilt (IntKind.wrap .i64 (o14 - o15)) o12) with
             | true => match self (y16, o13, (IntKind.wrap .i64 (o14 - o15)), o12, ()) with
              | none => none
              | some (y19, _) => some (y19, ())
             | false => some (y16, ())
            | false => some (y16, ())
          | false => match (ilt o13 (IntKind.wrap .i64 (o14 - o15))) with
           | true => match (ilt (IntKind.wrap .i64 (o14 - o15)) o12) with
            | true => match self (y16, o13, (IntKind.wrap .i64 (o14 - o15)), o12, ()) with
             | none => none
             | some (y20, _) => some (y20, ())
            | false => some (y16, ())
           | false => some (y16, ())
        | false => match (ilt o10 o15) with
         | true => match (ilt o15 o13) with
          | true => match self (o9, o10, o15, o13, ()) with
           | none => none
           | some (y21, _) => match (ilt o13 (IntKind.wrap .i64 (o14 - o15))) with
            | true => match (ilt (IntKind.wrap .i64 (o14 - o15)) o12) with
             | true => match self (y21, o13, (IntKind.wrap .i64 (o14 - o15)), o12, ()) with
              | none => none
              | some (y22, _) => some (y22, ())
             | false => some (y21, ())
            | false => some (y21, ())
          | false => match (ilt o13 (IntKind.wrap .i64 (o14 - o15))) with
           | true => match (ilt (IntKind.wrap .i64 (o14 - o15)) o12) with
            | true => match self (o9, o13, (IntKind.wrap .i64 (o14 - o15)), o12, ()) with
             | none => none
             | some (y23, _) => some (y23, ())
            | false => some (o9, ())
           | false => some (o9, ())
         | false => match (ilt o13 (IntKind.wrap .i64 (o14 - o15))) with
          | true => match (ilt (IntKind.wrap .i64 (o14 - o15)) o12) with
           | true => match self (o9, o13, (IntKind.wrap .i64 (o14 - o15)), o12, ()) with
            | none => none
            | some (y24, _) => some (y24, ())
           | false => some (o9, ())
          | false => some (o9, ())
       | false => match (ilt o10 o15) with
        | true => match (ilt o15 o13) with
         | true => match self (o9, o10, o15, o13, ()) with
          | none => none
          | some (y25, _) => match (ilt o13 (IntKind.wrap .i64 (o14 - o15))) with
           | true => match (ilt (IntKind.wrap .i64 (o14 - o15)) o12) with
            | true => match self (y25, o13, (IntKind.wrap .i64 (o14 - o15)), o12, ()) with
             | none => none
             | some (y26, _) => some (y26, ())
            | false => some (y25, ())
           | false => some (y25, ())
         | false => match (ilt o13 (IntKind.wrap .i64 (o14 - o15))) with
          | true => match (ilt (IntKind.wrap .i64 (o14 - o15)) o12) with
           | true => match self (o9, o13, (IntKind.wrap .i64 (o14 - o15)), o12, ()) with
            | none => none
            | some (y27, _) => some (y27, ())
           | false => some (o9, ())
          | false => some (o9, ())
        | false => match (ilt o13 (IntKind.wrap .i64 (o14 - o15))) with
         | true => match (ilt (IntKind.wrap .i64 (o14 - o15)) o12) with
          | true => match self (o9, o13, (IntKind.wrap .i64 (o14 - o15)), o12, ()) with
           | none => none
           | some (y28, _) => some (y28, ())
          | false => some (o9, ())
         | false => some (o9, ())
      | .inr _ => none
    | false => match iterL (symS_s4 self) many (a0, a1, a2, a3, (IntKind.wrap .i64 x8), (IntKind.wrap .i64 ((IntKind.wrap .i64 x8) + a2)), a1, a2, (IntKind.wrap .i64 ((IntKind.wrap .i64 ((IntKind.wrap .i64 x8) + a2)) - 1)), ()) with
     | none => none
     | some r => match r with
      | .inl (o29, o30, o31, o32, o33, o34, o35, _) => match (ilt o35 o31) with
       | true => match (ilt o31 (IntKind.wrap .i64 (o34 - o35))) with
        | true => match rotS (o29, o35, o31, (IntKind.wrap .i64 (o34 - o35)), ()) with
         | none => none
         | some (y36, _) => match (ilt o30 o35) with
          | true => match (ilt o35 o33) with
           | true => match self (y36, o30, o35, o33, ()) with
            | none => none
            | some (y37, _) => match (ilt o33 (IntKind.wrap .i64 (o34 - o35))) with
             | true => match (ilt (IntKind.wrap .i64 (o34 - o35)) o32) with
              | true => match self (y37, o33, (IntKind.wrap .i64 (o34 - o35)), o32, ()) with
               | none => none
               | some (y38, _) => some (y38, ())
              | false => some (y37, ())
             | false => some (y37, ())
           | false => match (ilt o33 (IntKind.wrap .i64 (o34 - o35))) with
            | true => match (ilt (IntKind.wrap .i64 (o34 - o35)) o32) with
             | true => match self (y36, o33, (IntKind.wrap .i64 (o34 - o35)), o32, ()) with
              | none => none
              | some (y39, _) => some (y39, ())
             | false => some (y36, ())
            | false => some (y36, ())
          | false => match (ilt o33 (IntKind.wrap .i64 (o34 - o35))) with
           | true => match (ilt (IntKind.wrap .i64 (o34 - o35)) o32) with
            | true => match self (y36, o33, (IntKind.wrap .i64 (o34 - o35)), o32, ()) with
             | none => none
             | some (y40, _) => some (y40, ())
            | false => some (y36, ())
           | false => some (y36, ())
        | false => match (ilt o30 o35) with
         | true => match (ilt o35 o33) with
          | true => match self (o29, o30, o35, o33, ()) with
           | none => none
           | some (y41, _) => match (ilt o33 (IntKind.wrap .i64 (o34 - o35))) with
            | true => match (ilt (IntKind.wrap .i64 (o34 - o35)) o32) with
             | true => match self (y41, o33, (IntKind.wrap .i64 (o34 - o35)), o32, ()) with
              | none => none
              | some (y42, _) => some (y42, ())
             | false => some (y41, ())
            | false => some (y41, ())
          | false => match (ilt o33 (IntKind.wrap .i64 (o34 - o35))) with
           | true => match (ilt (IntKind.wrap .i64 (o34 - o35)) o32) with
            | true => match self (o29, o33, (IntKind.wrap .i64 (o34 - o35)), o32, ()) with
             | none => none
             | some (y43, _) => some (y43, ())
            | false => some (o29, ())
           | false => some (o29, ())
         | false => match (ilt o33 (IntKind.wrap .i64 (o34 - o35))) with
          | true => match (ilt (IntKind.wrap .i64 (o34 - o35)) o32) with
           | true => match self (o29, o33, (IntKind.wrap .i64 (o34 - o35)), o32, ()) with
            | none => none
            | some (y44, _) => some (y44, ())
           | false => some (o29, ())
          | false => some (o29, ())
       | false => match (ilt o30 o35) with
        | true => match (ilt o35 o33) with
         | true => match self (o29, o30, o35, o33, ()) with
          | none => none
          | some (y45, _) => match (ilt o33 (IntKind.wrap .i64 (o34 - o35))) with
           | true => match (ilt (IntKind.wrap .i64 (o34 - o35)) o32) with
            | true => match self (y45, o33, (IntKind.wrap .i64 (o34 - o35)), o32, ()) with
             | none => none
             | some (y46, _) => some (y46, ())
            | false => some (y45, ())
           | false => some (y45, ())
         | false => match (ilt o33 (IntKind.wrap .i64 (o34 - o35))) with
          | true => match (ilt (IntKind.wrap .i64 (o34 - o35)) o32) with
           | true => match self (o29, o33, (IntKind.wrap .i64 (o34 - o35)), o32, ()) with
            | none => none
            | some (y47, _) => some (y47, ())
           | false => some (o29, ())
          | false => some (o29, ())
        | false => match (ilt o33 (IntKind.wrap .i64 (o34 - o35))) with
         | true => match (ilt (IntKind.wrap .i64 (o34 - o35)) o32) with
          | true => match self (o29, o33, (IntKind.wrap .i64 (o34 - o35)), o32, ()) with
           | none => none
           | some (y48, _) => some (y48, ())
          | false => some (o29, ())
         | false => some (o29, ())
      | .inr _ => none
def symS_f [Lk] : Nat → (List (Int × Int × Int × Bool × Unit) × Int × Int × Int × Unit) → Option ((List (Int × Int × Int × Bool × Unit) × Unit))
 | 0, _ => none
 | n + 1, v => symS_d (symS_f n) v
def symS [Lk] := fun v => Lk.f (symS_f 100 v)
theorem symS_eq v : symS v = symS_f 100 v := lock_eq _
end
end Go.Pev
end
section
namespace Go.Pev
set_option maxRecDepth 100000
noncomputable section
attribute [local irreducible] fitsR fitsIR idxR sublR iltR ileR ieqR quoR remR shlR shrR cloneR iterO many IntKind.wrap dlen dset dget dapp dtake dcut drep dnat dclear imin imax lookupM storeM
-- slices.stableCmpFunc[archipelago/api.Tie]
abbrev stabS_i : Items := [(.tmp 0, .own 44 (.prod (.int .i64) (.prod (.int .i64) (.prod (.int .i64) (.prod .bool .unit))))), (.tmp 1, .di), (.tmp 2, .clo 73 [])]
abbrev stabS_o : Items := [(.obj 0, .own 44 (.prod (.int .i64) (.prod (.int .i64) (.prod (.int .i64) (.prod .bool .unit)))))]
abbrev stabS_r : List RS := []
abbrev stabS_i2 : Items := [(.obj 0, .own 44 (.prod (.int .i64) (.prod (.int .i64) (.prod (.int .i64) (.prod .bool .unit))))), (.tmp 0, .own' 0), (.tmp 1, .di), (.tmp 2, .clo 73 []), (.tmp 6, .di), (.tmp 7, .di), (.tmp 8, .di)]
abbrev stabS_o2 : Outs := [(.exit 4, [(.obj 0, .own 44 (.prod (.int .i64) (.prod (.int .i64) (.prod (.int .i64) (.prod .bool .unit))))), (.tmp 0, .own' 0), (.tmp 1, .di), (.tmp 2, .clo 73 []), (.tmp 6, .di), (.tmp 7, .di)])]
def stabS_s2 [Lk] : (List (Int × Int × Int × Bool × Unit) × Int × Int × Int × Int × Unit) → Option ((List (Int × Int × Int × Bool × Unit) × Int × Int × Int × Int × Unit) ⊕ (List (Int × Int × Int × Bool × Unit) × Int × Int × Int × Unit) ⊕ Unit) := fun (a0, a1, a2, a3, a4, _) =>
 match (ile a4 a1) with
 | true => match symS (a0, a3, (IntKind.wrap .i64 (a3 + a2)), a4, ()) with
  | none => none
  | some (y0, _) => some (.inl (y0, a1, a2, a4, (IntKind.wrap .i64 (a4 + (IntKind.wrap .i64 (2 * a2)))), ()))
 | false => some (.inr (.inl (a0, a1, a2, a3, ())))
abbrev stabS_i1 : Items := [(.obj 0, .own 44 (.prod (.int .i64) (.prod (.int .i64) (.prod (.int .i64) (.prod .bool .unit))))), (.tmp 0, .own' 0), (.tmp 1, .di), (.tmp 2, .clo 73 []), (.tmp 6, .di)]
abbrev stabS_o1 : Outs := [(.exit 2, [(.obj 0, .own 44 (.prod (.int .i64) (.prod (.int .i64) (.prod (.int .i64) (.prod .bool .unit)))))])]
def stabS_s1 [Lk] : (List (Int × Int × Int × Bool × Unit) × Int × Int × Unit) → Option ((List (Int × Int × Int × Bool × Unit) × Int × Int × Unit) ⊕ (List (Int × Int × Int × Bool × Unit) × Unit) ⊕ Unit) := fun (a0, a1, a2, _) =>
 match (ilt a2 a1) with
 | true => match iterL stabS_s2 many (a0, a1, a2, 0, (IntKind.wrap .i64 (2 * a2)), ()) with
  | none => none
  | some r => match r with
   | .inl (o0, o1, o2, o3, _) => match (ilt (IntKind.wrap .i64 (o3 + o2)) o1) with
    | true => match symS (o0, o3, (IntKind.wrap .i64 (o3 + o2)), o1, ()) with
     | none => none
     | some (y4, _) => some (.inl (y4, o1, (IntKind.wrap .i64 (o2 * 2)), ()))
    | false => some (.inl (o0, o1, (IntKind.wrap .i64 (o2 * 2)), ()))
   | .inr _ => none
 | false => some (.inr (.inl (a0, ())))
abbrev stabS_i0 : Items := [(.obj 0, .own 44 (.prod (.int .i64) (.prod (.int .i64) (.prod (.int .i64) (.prod .bool .unit))))), (.tmp 0, .own' 0), (.tmp 1, .di), (.tmp 2, .clo 73 []), (.tmp 6, .di), (.tmp 7, .di), (.tmp 8, .di)]
abbrev stabS_o0 : Outs := [(.exit 0, [(.obj 0, .own 44 (.prod (.int .i64) (.prod (.int .i64) (.prod (.int .i64) (.prod .bool .unit))))), (.tmp 0, .own' 0), (.tmp 1, .di), (.tmp 2, .clo 73 []), (.tmp 6, .di), (.tmp 7, .di)])]
def stabS_s0 [Lk] : (List (Int × Int × Int × Bool × Unit) × Int × Int × Int × Int × Unit) → Option ((List (Int × Int × Int × Bool × Unit) × Int × Int × Int × Int × Unit) ⊕ (List (Int × Int × Int × Bool × Unit) × Int × Int × Int × Unit) ⊕ Unit) := fun (a0, a1, a2, a3, a4, _) =>
 match (ile a4 a1) with
 | true => match insS (a0, a3, a4, ()) with
  | none => none
  | some (y0, _) => some (.inl (y0, a1, a2, a4, (IntKind.wrap .i64 (a4 + a2)), ()))
 | false => some (.inr (.inl (a0, a1, a2, a3, ())))
def stabS_d [Lk] : (List (Int × Int × Int × Bool × Unit) × Int × Unit) → Option ((List (Int × Int × Int × Bool × Unit) × Unit)) := fun (a0, a1, _) =>
 match iterL stabS_s0 many (a0, a1, 20, 0, 20, ()) with
 | none => none
 | some r => match r with
  | .inl (o0, o1, o2, o3, _) => match insS (o0, o3, o1, ()) with
   | none => none
   | some (y4, _) => match iterL stabS_s1 many (y4, o1, o2, ()) with
    | none => none
    | some r => match r with
     | .inl (o5, _) => some (o5, ())
     | .inr _ => none
  | .inr _ => none
def stabS [Lk] := fun v => Lk.f (stabS_d v)
theorem stabS_eq v : stabS v = stabS_d v := lock_eq _
-- slices.SortStableFunc[[]archipelago/api.Tie,archipelago/api.Tie]
abbrev sortSS_i : Items := [(.tmp 0, .own 44 (.prod (.int .i64) (.prod (.int .i64) (.prod (.int .i64) (.prod .bool .unit))))), (.tmp 1, .clo 73 [])]
abbrev sortSS_o : Items := [(.obj 0, .own 44 (.prod (.int .i64) (.prod (.int .i64) (.prod (.int .i64) (.prod .bool .unit)))))]
abbrev sortSS_r : List RS := []
def sortSS_d [Lk] : (List (Int × Int × Int × Bool × Unit) × Unit) → Option ((List (Int × Int × Int × Bool × Unit) × Unit)) := fun (a0, _) =>
 match stabS (a0, (dlen a0), ()) with
 | none => none
 | some (y0, _) => some (y0, ())
def sortSS [Lk] := fun v => Lk.f (sortSS_d v)
theorem sortSS_eq v : sortSS v = sortSS_d v := lock_eq _
-- archipelago/span.Spanning
abbrev spSpan_i : Items := [(.tmp 0, .di), (.tmp 1, .dat (.slice (.prod (.int .i64) (.prod (.int .i64) .unit))))]
abbrev spSpan_o : Items := [(.tmp 0, .own 42 (.prod (.int .i64) (.prod (.int .i64) .unit))), (.tmp 1, .di)]
abbrev spSpan_r : List RS := [.one, .one]
abbrev spSpan_i0 : Items := [(.tmp 1, .dat (.slice (.prod (.int .i64) (.prod (.int .i64) .unit)))), (.tmp 7, .own 42 (.prod (.int .i64) (.prod (.int .i64) .unit))), (.tmp 19, .own 4 .bool), (.tmp 20, .di), (.tmp 21, .di)]
abbrev spSpan_o0 : Outs := [(.exit 0, [(.tmp 7, .own 42 (.prod (.int .i64) (.prod (.int .i64) .unit)))])]
def spSpan_s0 [Lk] : (List (Int × Int × Unit) × List (Int × Int × Unit) × List Bool × Int × Int × Unit) → Option ((List (Int × Int × Unit) × List (Int × Int × Unit) × List Bool × Int × Int × Unit) ⊕ (List (Int × Int × Unit) × Unit) ⊕ Unit) := fun (a0, a1, a2, a3, a4, _) =>
 match (ilt a4 a3) with
 | true => match idx a2 a4 with
  | none => none
  | some x0 => match (dget a2 (dnat a4) false) with
   | true => match idx a0 a4 with
    | none => none
    | some x1 => match (fits ((dlen a1) + (dlen ([(x1.1, (x1.2.1, ()))] : List (Int × Int × Unit))))) with
     | true => some (.inl (a0, (dapp a1 ([(x1.1, (x1.2.1, ()))] : List (Int × Int × Unit))), a2, a3, (IntKind.wrap .i64 (a4 + 1)), ()))
     | false => none
   | false => some (.inl (a0, a1, a2, a3, (IntKind.wrap .i64 (a4 + 1)), ()))
 | false => some (.inr (.inl (a1, ())))
def spSpan_d [Lk] : (Int × List (Int × Int × Unit) × Unit) → Option ((List (Int × Int × Unit) × Int × Unit)) := fun (a0, a1, _) =>
 match sasked (a0, a1, ()) with
 | none => none
 | some (y0, _) => match (!(ieq y0 0)) with
  | true => some (([] : List (Int × Int × Unit)), y0, ())
  | false => match salone (a0, ()) with
   | none => none
   | some (y1, _) => match sjoins (y1, a1, ()) with
    | none => none
    | some (y2, y3, _) => match iterL spSpan_s0 many (a1, ([] : List (Int × Int × Unit)), y3, (dlen y3), 0, ()) with
     | none => none
     | some r => match r with
      | .inl (o4, _) => some (o4, 0, ())
      | .inr _ => none
def spSpan [Lk] := fun v => Lk.f (spSpan_d v)
theorem spSpan_eq v : spSpan v = spSpan_d v := lock_eq _
-- archipelago/sound.Spanning
abbrev snSpan_i : Items := [(.tmp 0, .dat (.prod (.int .i64) (.prod (.slice (.prod (.int .i64) (.prod (.int .i64) (.prod (.int .i64) (.prod .bool .unit))))) .unit)))]
abbrev snSpan_o : Items := [(.tmp 0, .dat .bool)]
abbrev snSpan_r : List RS := [.one]
def snSpan_d [Lk] : ((Int × (List (Int × Int × Int × Bool × Unit)) × Unit) × Unit) → Option ((Bool × Unit)) := fun (a0, _) =>
 match lforest ((a0.1, (a0.2.1, ())), 0, ()) with
 | none => none
 | some (y0, y1, _) => match (!(ieq y1 0)) with
  | true => some (false, ())
  | false => match ledges ((a0.1, (a0.2.1, ())), ()) with
   | none => none
   | some (y2, _) => match scount (a0.1, y2, ()) with
    | none => none
    | some (y3, y4, _) => some ((ieq (dlen y0.2.1) y3), ())
def snSpan [Lk] := fun v => Lk.f (snSpan_d v)
theorem snSpan_eq v : snSpan v = snSpan_d v := lock_eq _
-- archipelago/sound.forests
abbrev snForests_i : Items := [(.tmp 0, .dat (.prod (.int .i64) (.prod (.slice (.prod (.int .i64) (.prod (.int .i64) (.prod (.int .i64) (.prod .bool .unit))))) .unit)))]
abbrev snForests_o : Items := [(.tmp 0, .own 52 (.prod (.int .i64) (.prod (.slice (.slice (.int .i64))) .unit)))]
abbrev snForests_r : List RS := [.one]
abbrev snForests_i0 : Items := [(.tmp 1, .box 2), (.cell 0 0, .di), (.cell 0 1, .dat (.slice (.prod (.int .i64) (.prod (.int .i64) (.prod (.int .i64) (.prod .bool .unit)))))), (.tmp 3, .own 52 (.prod (.int .i64) (.prod (.slice (.slice (.int .i64))) .unit))), (.tmp 4, .di)]
abbrev snForests_o0 : Outs := [(.ret, [(.tmp 2, .nil (.prod (.int .i64) (.prod (.slice (.slice (.int .i64))) .unit)))]), (.exit 0, [(.tmp 3, .own 52 (.prod (.int .i64) (.prod (.slice (.slice (.int .i64))) .unit)))])]
def snForests_s0 [Lk] : (Int × List (Int × Int × Int × Bool × Unit) × List (Int × (List (List Int)) × Unit) × Int × Unit) → Option ((Int × List (Int × Int × Int × Bool × Unit) × List (Int × (List (List Int)) × Unit) × Int × Unit) ⊕ (Unit) ⊕ (List (Int × (List (List Int)) × Unit) × Unit) ⊕ Unit) := fun (a0, a1, a2, a3, _) =>
 match ltop (a0, ()) with
 | none => none
 | some (y0, _) => match (ile a3 y0) with
  | true => match lforest ((a0, (a1, ())), a3, ()) with
   | none => none
   | some (y1, y2, _) => match (!(ieq y2 0)) with
    | true => some (.inr (.inl ()))
    | false => match (fits ((dlen a2) + (dlen ([(y1.1, (y1.2.1, ()))] : List (Int × (List (List Int)) × Unit))))) with
     | true => some (.inl (a0, a1, (dapp a2 ([(y1.1, (y1.2.1, ()))] : List (Int × (List (List Int)) × Unit))), (IntKind.wrap .i64 (a3 + 1)), ()))
     | false => none
  | false => some (.inr (.inr (.inl (a2, ()))))
def snForests_d [Lk] : ((Int × (List (Int × Int × Int × Bool × Unit)) × Unit) × Unit) → Option ((List (Int × (List (List Int)) × Unit) × Unit)) := fun (a0, _) =>
 match iterL snForests_s0 many (a0.1, a0.2.1, ([] : List (Int × (List (List Int)) × Unit)), 0, ()) with
 | none => none
 | some r => match r with
  | .inl _ => some (([] : List (Int × (List (List Int)) × Unit)), ())
  | .inr r => match r with
   | .inl (o0, _) => some (o0, ())
   | .inr _ => none
def snForests [Lk] := fun v => Lk.f (snForests_d v)
theorem snForests_eq v : snForests v = snForests_d v := lock_eq _
-- slices.IndexFunc[[]archipelago/api.Tie,archipelago/api.Tie]
abbrev idxFuncT_ly_i : Items := [(.tmp 0, .dat (.slice (.prod (.int .i64) (.prod (.int .i64) (.prod (.int .i64) (.prod .bool .unit)))))), (.cap 1 0, .box 1), (.cell 0 0, .dat (.slice (.prod (.int .i64) (.prod (.slice (.slice (.int .i64))) .unit)))), (.tmp 1, .clo 81 [(0, 0)])]
abbrev idxFuncT_ly_o : Items := [(.obj 0, .box 1), (.cell 0 0, .dat (.slice (.prod (.int .i64) (.prod (.slice (.slice (.int .i64))) .unit)))), (.tmp 0, .di)]
abbrev idxFuncT_ly_r : List RS := [.one]
abbrev idxFuncT_ly_i0 : Items := [(.obj 0, .box 1), (.cell 0 0, .dat (.slice (.prod (.int .i64) (.prod (.slice (.slice (.int .i64))) .unit)))), (.tmp 0, .dat (.slice (.prod (.int .i64) (.prod (.int .i64) (.prod (.int .i64) (.prod .bool .unit)))))), (.tmp 1, .clo 81 [(0, 0)]), (.tmp 7, .di), (.tmp 8, .di)]
abbrev idxFuncT_ly_o0 : Outs := [(.ret, [(.obj 0, .box 1), (.cell 0 0, .dat (.slice (.prod (.int .i64) (.prod (.slice (.slice (.int .i64))) .unit)))), (.tmp 4, .di)]), (.exit 0, [(.obj 0, .box 1), (.cell 0 0, .dat (.slice (.prod (.int .i64) (.prod (.slice (.slice (.int .i64))) .unit))))])]
def idxFuncT_ly_s0 [Lk] : (List (Int × (List (List Int)) × Unit) × List (Int × Int × Int × Bool × Unit) × Int × Int × Unit) → Option ((List (Int × (List (List Int)) × Unit) × List (Int × Int × Int × Bool × Unit) × Int × Int × Unit) ⊕ (List (Int × (List (List Int)) × Unit) × Int × Unit) ⊕ (List (Int × (List (List Int)) × Unit) × Unit) ⊕ Unit) := fun (a0, a1, a2, a3, _) =>
 match (ilt a3 a2) with
 | true => match idx a1 a3 with
  | none => none
  | some x0 => match idx a0 x0.2.2.1 with
   | none => none
   | some x1 => match fconn ((x1.1, (x1.2.1, ())), x0.1, x0.2.1, ()) with
    | none => none
    | some (y2, y3, _) => match (!x0.2.2.2.1) with
     | true => match (!y2) with
      | true => some (.inr (.inl (a0, a3, ())))
      | false => some (.inl (a0, a1, a2, (IntKind.wrap .i64 (a3 + 1)), ()))
     | false => some (.inl (a0, a1, a2, (IntKind.wrap .i64 (a3 + 1)), ()))
 | false => some (.inr (.inr (.inl (a0, ()))))
def idxFuncT_ly_d [Lk] : (List (Int × Int × Int × Bool × Unit) × List (Int × (List (List Int)) × Unit) × Unit) → Option ((List (Int × (List (List Int)) × Unit) × Int × Unit)) := fun (a0, a1, _) =>
 match iterL idxFuncT_ly_s0 many (a1, a0, (dlen a0), 0, ()) with
 | none => none
 | some r => match r with
  | .inl (o0, o1, _) => some (o0, o1, ())
  | .inr r => match r with
   | .inl (o2, _) => some (o2, (-1 : Int), ())
   | .inr _ => none
def idxFuncT_ly [Lk] := fun v => Lk.f (idxFuncT_ly_d v)
theorem idxFuncT_ly_eq v : idxFuncT_ly v = idxFuncT_ly_d v := lock_eq _
-- slices.ContainsFunc[[]archipelago/api.Tie,archipelago/api.Tie]
abbrev contFuncT_ly_i : Items := [(.tmp 0, .dat (.slice (.prod (.int .i64) (.prod (.int .i64) (.prod (.int .i64) (.prod .bool .unit)))))), (.cap 1 0, .box 1), (.cell 0 0, .dat (.slice (.prod (.int .i64) (.prod (.slice (.slice (.int .i64))) .unit)))), (.tmp 1, .clo 81 [(0, 0)])]
abbrev contFuncT_ly_o : Items := [(.obj 0, .box 1), (.cell 0 0, .dat (.slice (.prod (.int .i64) (.prod (.slice (.slice (.int .i64))) .unit)))), (.tmp 0, .dat .bool)]
abbrev contFuncT_ly_r : List RS := [.one]
def contFuncT_ly_d [Lk] : (List (Int × Int × Int × Bool × Unit) × List (Int × (List (List Int)) × Unit) × Unit) → Option ((List (Int × (List (List Int)) × Unit) × Bool × Unit)) := fun (a0, a1, _) =>
 match idxFuncT_ly (a0, a1, ()) with
 | none => none
 | some (y0, y1, _) => some (y0, (ile 0 y1), ())
def contFuncT_ly [Lk] := fun v => Lk.f (contFuncT_ly_d v)
theorem contFuncT_ly_eq v : contFuncT_ly v = contFuncT_ly_d v := lock_eq _
-- archipelago/sound.Lying
abbrev snLying_i : Items := [(.tmp 0, .dat (.prod (.int .i64) (.prod (.slice (.prod (.int .i64) (.prod (.int .i64) (.prod (.int .i64) (.prod .bool .unit))))) .unit)))]
abbrev snLying_o : Items := [(.tmp 0, .dat .bool)]
abbrev snLying_r : List RS := [.one]
def snLying_d [Lk] : ((Int × (List (Int × Int × Int × Bool × Unit)) × Unit) × Unit) → Option ((Bool × Unit)) := fun (a0, _) =>
 match snForests ((a0.1, (a0.2.1, ())), ()) with
 | none => none
 | some (y0, _) => match (ieq (dlen y0) 0) with
  | true => some (false, ())
  | false => match contFuncT_ly (a0.2.1, y0, ()) with
   | none => none
   | some (y1, y2, _) => some ((!y2), ())
def snLying [Lk] := fun v => Lk.f (snLying_d v)
theorem snLying_eq v : snLying v = snLying_d v := lock_eq _
-- archipelago/sound.Halving
abbrev snHalving_i : Items := [(.tmp 0, .dat (.prod (.int .i64) (.prod (.slice (.prod (.int .i64) (.prod (.int .i64) (.prod (.int .i64) (.prod .bool .unit))))) .unit)))]
abbrev snHalving_o : Items := [(.tmp 0, .dat .bool)]
abbrev snHalving_r : List RS := [.one]
abbrev snHalving_i1 : Items := [(.tmp 1, .box 2), (.cell 0 0, .di), (.cell 0 1, .dat (.slice (.prod (.int .i64) (.prod (.int .i64) (.prod (.int .i64) (.prod .bool .unit)))))), (.tmp 3, .own 52 (.prod (.int .i64) (.prod (.slice (.slice (.int .i64))) .unit))), (.tmp 4, .di), (.tmp 5, .box 2), (.cell 2 0, .di), (.cell 2 1, .dat (.slice (.slice (.int .i64)))), (.tmp 11, .own' 1), (.tmp 12, .di), (.tmp 13, .di), (.tmp 19, .di), (.tmp 20, .di)]
abbrev snHalving_o1 : Outs := [(.ret, [(.tmp 2, .dat .bool)]), (.exit 2, [(.tmp 1, .box 2), (.cell 0 0, .di), (.cell 0 1, .dat (.slice (.prod (.int .i64) (.prod (.int .i64) (.prod (.int .i64) (.prod .bool .unit)))))), (.tmp 3, .own 52 (.prod (.int .i64) (.prod (.slice (.slice (.int .i64))) .unit))), (.tmp 11, .own' 1), (.tmp 12, .di), (.tmp 13, .di)])]
def snHalving_s1 [Lk] : (Int × List (Int × Int × Int × Bool × Unit) × List (Int × (List (List Int)) × Unit) × Int × Int × List (List Int) × Int × Int × Int × Int × Unit) → Option ((Int × List (Int × Int × Int × Bool × Unit) × List (Int × (List (List Int)) × Unit) × Int × Int × List (List Int) × Int × Int × Int × Int × Unit) ⊕ (Bool × Unit) ⊕ (Int × List (Int × Int × Int × Bool × Unit) × List (Int × (List (List Int)) × Unit) × Int × Int × Unit) ⊕ Unit) := fun (a0, a1, a2, a3, a4, a5, a6, a7, a8, a9, _) =>
 match (ilt a9 a8) with
 | true => match fsize ((a4, (a5, ())), a9, ()) with
  | none => none
  | some (y0, y1, _) => match shr? .i64 a0 (IntKind.wrap .u64 a3) with
   | none => none
   | some x2 => match (ilt (imax 1 x2) y0) with
    | true => some (.inr (.inl (false, ())))
    | false => some (.inl (a0, a1, a2, a3, a4, a5, a6, a7, a8, (IntKind.wrap .i64 (a9 + 1)), ()))
 | false => some (.inr (.inr (.inl (a0, a1, a2, a6, a7, ()))))
abbrev snHalving_i0 : Items := [(.tmp 1, .box 2), (.cell 0 0, .di), (.cell 0 1, .dat (.slice (.prod (.int .i64) (.prod (.int .i64) (.prod (.int .i64) (.prod .bool .unit)))))), (.tmp 3, .own 52 (.prod (.int .i64) (.prod (.slice (.slice (.int .i64))) .unit))), (.tmp 11, .own' 1), (.tmp 12, .di), (.tmp 13, .di)]
abbrev snHalving_o0 : Outs := [(.ret, [(.tmp 2, .dat .bool)]), (.exit 0, [(.tmp 3, .own 52 (.prod (.int .i64) (.prod (.slice (.slice (.int .i64))) .unit)))])]
def snHalving_s0 [Lk] : (Int × List (Int × Int × Int × Bool × Unit) × List (Int × (List (List Int)) × Unit) × Int × Int × Unit) → Option ((Int × List (Int × Int × Int × Bool × Unit) × List (Int × (List (List Int)) × Unit) × Int × Int × Unit) ⊕ (Bool × Unit) ⊕ (List (Int × (List (List Int)) × Unit) × Unit) ⊕ Unit) := fun (a0, a1, a2, a3, a4, _) =>
 match (ilt a4 a3) with
 | true => match idx a2 a4 with
  | none => none
  | some x0 => match iterL snHalving_s1 many (a0, a1, a2, a4, (dget a2 (dnat a4) (0, (([] : List (List Int)), ()))).1, (dget a2 (dnat a4) (0, (([] : List (List Int)), ()))).2.1, a3, a4, a0, 0, ()) with
   | none => none
   | some r => match r with
    | .inl (o1, _) => some (.inr (.inl (o1, ())))
    | .inr r => match r with
     | .inl (o2, o3, o4, o5, o6, _) => some (.inl (o2, o3, o4, o5, (IntKind.wrap .i64 (o6 + 1)), ()))
     | .inr _ => none
 | false => some (.inr (.inr (.inl (a2, ()))))
def snHalving_d [Lk] : ((Int × (List (Int × Int × Int × Bool × Unit)) × Unit) × Unit) → Option ((Bool × Unit)) := fun (a0, _) =>
 match snForests ((a0.1, (a0.2.1, ())), ()) with
 | none => none
 | some (y0, _) => match iterL snHalving_s0 many (a0.1, a0.2.1, y0, (dlen y0), 0, ()) with
  | none => none
  | some r => match r with
   | .inl (o1, _) => some (o1, ())
   | .inr r => match r with
    | .inl (o2, _) => some ((ilt 0 (dlen o2)), ())
    | .inr _ => none
def snHalving [Lk] := fun v => Lk.f (snHalving_d v)
theorem snHalving_eq v : snHalving v = snHalving_d v := lock_eq _
-- archipelago/sound.Sound
abbrev snSound_i : Items := [(.tmp 0, .dat (.prod (.int .i64) (.prod (.slice (.prod (.int .i64) (.prod (.int .i64) (.prod (.int .i64) (.prod .bool .unit))))) .unit)))]
abbrev snSound_o : Items := [(.tmp 0, .dat .bool)]
abbrev snSound_r : List RS := [.one]
def snSound_d [Lk] : ((Int × (List (Int × Int × Int × Bool × Unit)) × Unit) × Unit) → Option ((Bool × Unit)) := fun (a0, _) =>
 match snSpan ((a0.1, (a0.2.1, ())), ()) with
 | none => none
 | some (y0, _) => match y0 with
  | true => match snLying ((a0.1, (a0.2.1, ())), ()) with
   | none => none
   | some (y1, _) => match y1 with
    | true => match snHalving ((a0.1, (a0.2.1, ())), ()) with
     | none => none
     | some (y2, _) => some (y2, ())
    | false => some (false, ())
  | false => some (false, ())
def snSound [Lk] := fun v => Lk.f (snSound_d v)
theorem snSound_eq v : snSound v = snSound_d v := lock_eq _
-- archipelago/sound.total
abbrev snTotL_i : Items := [(.tmp 0, .dat (.prod (.int .i64) (.prod (.slice (.prod (.int .i64) (.prod (.int .i64) (.prod (.int .i64) (.prod .bool .unit))))) .unit))), (.tmp 1, .clo 85 [])]
abbrev snTotL_o : Items := [(.tmp 0, .di)]
abbrev snTotL_r : List RS := [.one]
abbrev snTotL_i0 : Items := [(.tmp 1, .clo 85 []), (.tmp 4, .di), (.tmp 11, .dat (.slice (.prod (.int .i64) (.prod (.int .i64) (.prod (.int .i64) (.prod .bool .unit)))))), (.tmp 12, .di), (.tmp 13, .di)]
abbrev snTotL_o0 : Outs := [(.exit 0, [(.tmp 4, .di)])]
def snTotL_s0 [Lk] : (Int × List (Int × Int × Int × Bool × Unit) × Int × Int × Unit) → Option ((Int × List (Int × Int × Int × Bool × Unit) × Int × Int × Unit) ⊕ (Int × Unit) ⊕ Unit) := fun (a0, a1, a2, a3, _) =>
 match (ilt a3 a2) with
 | true => match idx a1 a3 with
  | none => none
  | some x0 => some (.inl ((IntKind.wrap .i64 (a0 + x0.2.2.1)), a1, a2, (IntKind.wrap .i64 (a3 + 1)), ()))
 | false => some (.inr (.inl (a0, ())))
def snTotL_d [Lk] : ((Int × (List (Int × Int × Int × Bool × Unit)) × Unit) × Unit) → Option ((Int × Unit)) := fun (a0, _) =>
 match lright ((a0.1, (a0.2.1, ())), ()) with
 | none => none
 | some (y0, _) => match (!y0) with
  | true => some (0, ())
  | false => match iterL snTotL_s0 many (0, a0.2.1, (dlen a0.2.1), 0, ()) with
   | none => none
   | some r => match r with
    | .inl (o1, _) => some (o1, ())
    | .inr _ => none
def snTotL [Lk] := fun v => Lk.f (snTotL_d v)
theorem snTotL_eq v : snTotL v = snTotL_d v := lock_eq _
-- archipelago/sound.Levels
abbrev snLevels_i : Items := [(.tmp 0, .dat (.prod (.int .i64) (.prod (.slice (.prod (.int .i64) (.prod (.int .i64) (.prod (.int .i64) (.prod .bool .unit))))) .unit)))]
abbrev snLevels_o : Items := [(.tmp 0, .di)]
abbrev snLevels_r : List RS := [.one]
def snLevels_d [Lk] : ((Int × (List (Int × Int × Int × Bool × Unit)) × Unit) × Unit) → Option ((Int × Unit)) := fun (a0, _) =>
 match snTotL ((a0.1, (a0.2.1, ())), ()) with
 | none => none
 | some (y0, _) => some (y0, ())
def snLevels [Lk] := fun v => Lk.f (snLevels_d v)
theorem snLevels_eq v : snLevels v = snLevels_d v := lock_eq _
-- archipelago/sound.total
abbrev snTotW_i : Items := [(.tmp 0, .dat (.prod (.int .i64) (.prod (.slice (.prod (.int .i64) (.prod (.int .i64) (.prod (.int .i64) (.prod .bool .unit))))) .unit))), (.tmp 1, .clo 86 [])]
abbrev snTotW_o : Items := [(.tmp 0, .di)]
abbrev snTotW_r : List RS := [.one]
abbrev snTotW_i0 : Items := [(.tmp 1, .clo 86 []), (.tmp 4, .di), (.tmp 11, .dat (.slice (.prod (.int .i64) (.prod (.int .i64) (.prod (.int .i64) (.prod .bool .unit)))))), (.tmp 12, .di), (.tmp 13, .di)]
abbrev snTotW_o0 : Outs := [(.exit 0, [(.tmp 4, .di)])]
def snTotW_s0 [Lk] : (Int × List (Int × Int × Int × Bool × Unit) × Int × Int × Unit) → Option ((Int × List (Int × Int × Int × Bool × Unit) × Int × Int × Unit) ⊕ (Int × Unit) ⊕ Unit) := fun (a0, a1, a2, a3, _) =>
 match (ilt a3 a2) with
 | true => match idx a1 a3 with
  | none => none
  | some x0 => match x0.2.2.2.1 with
   | true => some (.inl ((IntKind.wrap .i64 (a0 + x0.2.2.1)), a1, a2, (IntKind.wrap .i64 (a3 + 1)), ()))
   | false => some (.inl (a0, a1, a2, (IntKind.wrap .i64 (a3 + 1)), ()))
 | false => some (.inr (.inl (a0, ())))
def snTotW_d [Lk] : ((Int × (List (Int × Int × Int × Bool × Unit)) × Unit) × Unit) → Option ((Int × Unit)) := fun (a0, _) =>
 match lright ((a0.1, (a0.2.1, ())), ()) with
 | none => none
 | some (y0, _) => match (!y0) with
  | true => some (0, ())
  | false => match iterL snTotW_s0 many (0, a0.2.1, (dlen a0.2.1), 0, ()) with
   | none => none
   | some r => match r with
    | .inl (o1, _) => some (o1, ())
    | .inr _ => none
def snTotW [Lk] := fun v => Lk.f (snTotW_d v)
theorem snTotW_eq v : snTotW v = snTotW_d v := lock_eq _
-- archipelago/sound.Weight
abbrev snWeight_i : Items := [(.tmp 0, .dat (.prod (.int .i64) (.prod (.slice (.prod (.int .i64) (.prod (.int .i64) (.prod (.int .i64) (.prod .bool .unit))))) .unit)))]
abbrev snWeight_o : Items := [(.tmp 0, .di)]
abbrev snWeight_r : List RS := [.one]
def snWeight_d [Lk] : ((Int × (List (Int × Int × Int × Bool × Unit)) × Unit) × Unit) → Option ((Int × Unit)) := fun (a0, _) =>
 match snTotW ((a0.1, (a0.2.1, ())), ()) with
 | none => none
 | some (y0, _) => some (y0, ())
def snWeight [Lk] := fun v => Lk.f (snWeight_d v)
theorem snWeight_eq v : snWeight v = snWeight_d v := lock_eq _
-- archipelago/sound.Best
abbrev snBest_i : Items := [(.tmp 0, .dat (.prod (.int .i64) (.prod (.slice (.prod (.int .i64) (.prod (.int .i64) (.prod (.int .i64) (.prod .bool .unit))))) .unit)))]
abbrev snBest_o : Items := [(.tmp 0, .own 42 (.prod (.int .i64) (.prod (.int .i64) .unit))), (.tmp 1, .di)]
abbrev snBest_r : List RS := [.one, .one]
abbrev snBest_i0 : Items := [(.tmp 1, .box 2), (.cell 0 0, .di), (.cell 0 1, .dat (.slice (.prod (.int .i64) (.prod (.int .i64) (.prod (.int .i64) (.prod .bool .unit)))))), (.tmp 5, .own 42 (.prod (.int .i64) (.prod (.int .i64) .unit))), (.tmp 16, .own 44 (.prod (.int .i64) (.prod (.int .i64) (.prod (.int .i64) (.prod .bool .unit))))), (.tmp 17, .di), (.tmp 18, .di)]
abbrev snBest_o0 : Outs := [(.exit 0, [(.tmp 1, .box 2), (.cell 0 0, .di), (.cell 0 1, .dat (.slice (.prod (.int .i64) (.prod (.int .i64) (.prod (.int .i64) (.prod .bool .unit)))))), (.tmp 5, .own 42 (.prod (.int .i64) (.prod (.int .i64) .unit)))])]
def snBest_s0 [Lk] : (Int × List (Int × Int × Int × Bool × Unit) × List (Int × Int × Unit) × List (Int × Int × Int × Bool × Unit) × Int × Int × Unit) → Option ((Int × List (Int × Int × Int × Bool × Unit) × List (Int × Int × Unit) × List (Int × Int × Int × Bool × Unit) × Int × Int × Unit) ⊕ (Int × List (Int × Int × Int × Bool × Unit) × List (Int × Int × Unit) × Unit) ⊕ Unit) := fun (a0, a1, a2, a3, a4, a5, _) =>
 match (ilt a5 a4) with
 | true => match idx a3 a5 with
  | none => none
  | some x0 => match (fits ((dlen a2) + (dlen ([((dget a3 (dnat a5) (0, (0, (0, (false, ()))))).1, ((dget a3 (dnat a5) (0, (0, (0, (false, ()))))).2.1, ()))] : List (Int × Int × Unit))))) with
   | true => some (.inl (a0, a1, (dapp a2 ([((dget a3 (dnat a5) (0, (0, (0, (false, ()))))).1, ((dget a3 (dnat a5) (0, (0, (0, (false, ()))))).2.1, ()))] : List (Int × Int × Unit))), a3, a4, (IntKind.wrap .i64 (a5 + 1)), ()))
   | false => none
 | false => some (.inr (.inl (a0, a1, a2, ())))
def snBest_d [Lk] : ((Int × (List (Int × Int × Int × Bool × Unit)) × Unit) × Unit) → Option ((List (Int × Int × Unit) × Int × Unit)) := fun (a0, _) =>
 match lright ((a0.1, (a0.2.1, ())), ()) with
 | none => none
 | some (y0, _) => match (!y0) with
  | true => some (([] : List (Int × Int × Unit)), 1, ())
  | false => match cloneF a0.2.1 with
   | none => none
   | some x1 => match sortSS (x1, ()) with
    | none => none
    | some (y2, _) => match iterL snBest_s0 many (a0.1, a0.2.1, ([] : List (Int × Int × Unit)), y2, (dlen y2), 0, ()) with
     | none => none
     | some r => match r with
      | .inl (o3, o4, o5, _) => match spSpan (o3, o5, ()) with
       | none => none
       | some (y6, y7, _) => some (y6, y7, ())
      | .inr _ => none
def snBest [Lk] := fun v => Lk.f (snBest_d v)
theorem snBest_eq v : snBest v = snBest_d v := lock_eq _
-- archipelago/archipelagoref20.Spanning
-- archipelago/archipelagoref24.Spanning
-- archipelago/archipelagoref24.Lying
-- archipelago/archipelagoref24.Halving
-- archipelago/archipelagoref24.Sound
-- archipelago/archipelagoref24.Levels
-- archipelago/archipelagoref24.Weight
-- archipelago/archipelagoref24.Best
-- archipelago/archipelagoref23.in
-- archipelago/archipelagoref23.Gone
-- archipelago/archipelagoref23.members
-- archipelago/archipelagoref23.has
-- archipelago/archipelagoref23.Side
-- archipelago/archipelagoref23.One
-- archipelago/archipelagoref23.Drop
-- archipelago/archipelagoref23.Sound
-- archipelago/archipelagolaw24.alive
abbrev alive24_i : Items := []
abbrev alive24_o : Items := [(.tmp 0, .dat .bool)]
abbrev alive24_r : List RS := [.one]
def alive24_d [Lk] : (Unit) → Option ((Bool × Unit)) := fun _ =>
 match snBest ((4, (([(0, (1, (0, (true, ())))), (0, (2, (0, (true, ())))), (1, (2, (1, (false, ()))))] : List (Int × Int × Int × Bool × Unit)), ())), ()) with
 | none => none
 | some (y0, y1, _) => match snBest ((0, (([] : List (Int × Int × Int × Bool × Unit)), ())), ()) with
  | none => none
  | some (y2, y3, _) => match (ieq y1 0) with
   | true => match (ieq y3 1) with
    | true => match snSound ((4, (([(0, (1, (1, (true, ())))), (0, (2, (0, (true, ())))), (1, (2, (0, (false, ()))))] : List (Int × Int × Int × Bool × Unit)), ())), ()) with
     | none => none
     | some (y4, _) => match y4 with
      | true => match snLying ((4, (([(0, (1, (0, (true, ())))), (0, (2, (0, (true, ())))), (1, (2, (1, (false, ()))))] : List (Int × Int × Int × Bool × Unit)), ())), ()) with
       | none => none
       | some (y5, _) => match (!y5) with
        | true => match snSpan ((4, (([(0, (1, (0, (true, ())))), (0, (2, (0, (true, ())))), (1, (2, (1, (false, ()))))] : List (Int × Int × Int × Bool × Unit)), ())), ()) with
         | none => none
         | some (y6, _) => match y6 with
          | true => match snSpan ((4, (([(0, (1, (0, (false, ()))))] : List (Int × Int × Int × Bool × Unit)), ())), ()) with
           | none => none
           | some (y7, _) => match (!y7) with
            | true => match snHalving ((4, (([(0, (1, (0, (false, ()))))] : List (Int × Int × Int × Bool × Unit)), ())), ()) with
             | none => none
             | some (y8, _) => match y8 with
              | true => match snHalving ((3, (([(0, (1, (1, (true, ()))))] : List (Int × Int × Int × Bool × Unit)), ())), ()) with
               | none => none
               | some (y9, _) => match (!y9) with
                | true => match snLevels ((4, (([(0, (1, (0, (true, ())))), (0, (2, (0, (true, ())))), (1, (2, (1, (false, ()))))] : List (Int × Int × Int × Bool × Unit)), ())), ()) with
                 | none => none
                 | some (y10, _) => match (ieq y10 1) with
                  | true => match snWeight ((4, (([(0, (1, (0, (true, ())))), (0, (2, (0, (true, ())))), (1, (2, (1, (false, ()))))] : List (Int × Int × Int × Bool × Unit)), ())), ()) with
                   | none => none
                   | some (y11, _) => match (ieq y11 0) with
                    | true => match snWeight ((4, (([(0, (1, (1, (true, ())))), (0, (2, (0, (true, ())))), (1, (2, (0, (false, ()))))] : List (Int × Int × Int × Bool × Unit)), ())), ()) with
                     | none => none
                     | some (y12, _) => match (ieq y12 1) with
                      | true => match same11 (y0, ([(1, (2, ())), (0, (1, ()))] : List (Int × Int × Unit)), ()) with
                       | none => none
                       | some (y13, _) => some (y13, ())
                      | false => some (false, ())
                    | false => some (false, ())
                  | false => some (false, ())
                | false => some (false, ())
              | false => some (false, ())
            | false => some (false, ())
          | false => some (false, ())
        | false => some (false, ())
      | false => some (false, ())
    | false => some (false, ())
   | false => some (false, ())
def alive24 [Lk] := fun v => Lk.f (alive24_d v)
theorem alive24_eq v : alive24 v = alive24_d v := lock_eq _
-- archipelago/archipelagolaw24.great
abbrev great24_i : Items := [(.tmp 0, .dat (.prod (.int .i64) (.prod (.slice (.prod (.int .i64) (.prod (.int .i64) (.prod (.int .i64) (.prod .bool .unit))))) .unit)))]
abbrev great24_o : Items := [(.tmp 0, .dat .bool)]
abbrev great24_r : List RS := [.one]
def great24_d [Lk] : ((Int × (List (Int × Int × Int × Bool × Unit)) × Unit) × Unit) → Option ((Bool × Unit)) := fun (a0, _) =>
 match (ilt 30 (dlen a0.2.1)) with
 | true => some (true, ())
 | false => some ((ilt 12 a0.1), ())
def great24 [Lk] := fun v => Lk.f (great24_d v)
theorem great24_eq v : great24 v = great24_d v := lock_eq _
-- archipelago/archipelagolaw24.spanning
-- archipelago/archipelagolaw24.SoundAnswers
-- archipelago/archipelagolaw24.SoundStays
end
end Go.Pev
end
section
namespace Go.Pev
set_option maxRecDepth 100000
noncomputable section
attribute [local irreducible] fitsR fitsIR idxR sublR iltR ileR ieqR quoR remR shlR shrR cloneR iterO many IntKind.wrap dlen dset dget dapp dtake dcut drep dnat dclear imin imax lookupM storeM
-- archipelago/archipelagolaw24.SoundMost
-- archipelago/archipelagolaw24.SoundTop
abbrev soundTop_i : Items := [(.tmp 0, .dat (.prod (.int .i64) (.prod (.slice (.prod (.int .i64) (.prod (.int .i64) (.prod (.int .i64) (.prod .bool .unit))))) .unit)))]
abbrev soundTop_o : Items := [(.tmp 0, .dat .bool)]
abbrev soundTop_r : List RS := [.one]
abbrev soundTop_i0 : Items := [(.tmp 1, .box 2), (.cell 0 0, .di), (.cell 0 1, .dat (.slice (.prod (.int .i64) (.prod (.int .i64) (.prod (.int .i64) (.prod .bool .unit)))))), (.tmp 3, .di), (.tmp 4, .di)]
abbrev soundTop_o0 : Outs := [(.ret, [(.tmp 2, .dat .bool)]), (.exit 0, [(.tmp 1, .box 2), (.cell 0 0, .di), (.cell 0 1, .dat (.slice (.prod (.int .i64) (.prod (.int .i64) (.prod (.int .i64) (.prod .bool .unit)))))), (.tmp 3, .di)])]
def soundTop_s0 [Lk] : (Int × List (Int × Int × Int × Bool × Unit) × Int × Int × Unit) → Option ((Int × List (Int × Int × Int × Bool × Unit) × Int × Int × Unit) ⊕ (Bool × Unit) ⊕ (Int × List (Int × Int × Int × Bool × Unit) × Int × Unit) ⊕ Unit) := fun (a0, a1, a2, a3, _) =>
 match (ilt a3 (dlen a1)) with
 | true => match idx a1 a3 with
  | none => none
  | some x0 => match (ile a2 x0.2.2.1) with
   | true => some (.inr (.inl (false, ())))
   | false => some (.inl (a0, a1, a2, (IntKind.wrap .i64 (a3 + 1)), ()))
 | false => some (.inr (.inr (.inl (a0, a1, a2, ()))))
def soundTop_d [Lk] : ((Int × (List (Int × Int × Int × Bool × Unit)) × Unit) × Unit) → Option ((Bool × Unit)) := fun (a0, _) =>
 match alive24 () with
 | none => none
 | some (y0, _) => match (!y0) with
  | true => some (false, ())
  | false => match great24 ((a0.1, (a0.2.1, ())), ()) with
   | none => none
   | some (y1, _) => match y1 with
    | true => some (true, ())
    | false => match snSound ((a0.1, (a0.2.1, ())), ()) with
     | none => none
     | some (y2, _) => match (!y2) with
      | true => some (true, ())
      | false => match top21 (a0.1, ()) with
       | none => none
       | some (y3, _) => match iterL soundTop_s0 many (a0.1, a0.2.1, y3, 0, ()) with
        | none => none
        | some r => match r with
         | .inl (o4, _) => some (o4, ())
         | .inr r => match r with
          | .inl (o5, o6, o7, _) => match snLevels ((o5, (o6, ())), ()) with
           | none => none
           | some (y8, _) => match (ile y8 (IntKind.wrap .i64 ((dlen o6) * (imax 0 (IntKind.wrap .i64 (o7 - 1)))))) with
            | true => match snWeight ((o5, (o6, ())), ()) with
             | none => none
             | some (y9, _) => match snLevels ((o5, (o6, ())), ()) with
              | none => none
              | some (y10, _) => match (ile y9 y10) with
               | true => match snWeight ((o5, (o6, ())), ()) with
                | none => none
                | some (y11, _) => some ((ile 0 y11), ())
               | false => some (false, ())
            | false => some (false, ())
          | .inr _ => none
def soundTop [Lk] := fun v => Lk.f (soundTop_d v)
theorem soundTop_eq v : soundTop v = soundTop_d v := lock_eq _
-- slices.Equal[[]archipelago/api.Tie,archipelago/api.Tie]
-- archipelago/level.Same
-- slices.BinarySearchFunc[[]archipelago/api.Tie,archipelago/api.Tie,archipelago/api.Tie]
-- archipelago/level.place
-- archipelago/level.Find
-- archipelago/level.Near
-- archipelago/level.Counts
-- archipelago/archipelagoref19.Edges
-- archipelago/archipelagoref21.Near
-- archipelago/archipelagoref21.Counts
-- archipelago/archipelagolaw21.alive
-- archipelago/archipelagolaw21.great
-- archipelago/archipelagolaw21.LevelAnswers
-- archipelago/archipelagolaw21.LevelWithin
end
end Go.Pev
end
section

end
section
namespace Go.Pev.Pl
theorem wrap_in {n : Int} (h : -9223372036854775808 ≤ n ∧ n ≤ 9223372036854775807) : IntKind.wrap .i64 n = n := IntWalk.i64_in n h
theorem iter_rule {σ ρ : Type} {step : σ → Option (σ ⊕ ρ)} (I : σ → Prop) (Q : ρ → Prop) (m : σ → Nat)
  (h : ∀ v, I v → (∃ v', step v = some (.inl v') ∧ I v' ∧ m v' < m v) ∨ (∃ r, step v = some (.inr r) ∧ Q r)) :
  ∀ n v, I v → m v < n → ∃ r, iterO step n v = some r ∧ Q r := by
 intro n
 induction n with
 | zero => intro v _ hn; omega
 | succ n ih =>
  intro v hv hn
  rcases h v hv with ⟨v', e, hi, hm⟩ | ⟨r, e, hq⟩
  ·rw [iterO, e]
   exact ih v' hi (by omega)
  ·rw [iterO, e]
   exact ⟨r, rfl, hq⟩
theorem iterL_rule {σ ρ : Type} {step : σ → Option (σ ⊕ ρ)} (I : σ → Prop) (Q : ρ → Prop) (m : σ → Nat)
  (h : ∀ v, I v → (∃ v', step v = some (.inl v') ∧ I v' ∧ m v' < m v) ∨ (∃ r, step v = some (.inr r) ∧ Q r))
  (v : σ) (hi : I v) (hm : m v < many) : ∃ r, iterL step many v = some r ∧ Q r := by
 rw [iterL_eq]
 exact iter_rule I Q m h many v hi hm
section
set_option linter.unusedSectionVars false
variable {α : Type} [Inhabited α]
theorem idx_at {d : Array α} {n : Nat} (h : n < d.size) : idx d.toList (n : Int) = some d[n]! := by
 rw [idx_eq, idxR, if_neg (by omega)]
 simp [h]
theorem dget_at {d : Array α} {n : Nat} {z : α} (h : n < d.size) : dget d.toList (dnat (n : Int)) z = d[n]! := by
 simp [dget, dnat, h]
theorem dset_at {d : Array α} {n : Nat} {x : α} : dset d.toList (dnat (n : Int)) x = (d.setIfInBounds n x).toList := by
 simp [dset, dnat]
theorem dlen_at {d : Array α} : dlen d.toList = (d.size : Int) := by simp [dlen]
theorem swp_fold (d : Array α) (i j : Nat) : (d.setIfInBounds i d[j]!).setIfInBounds j d[i]! = Go.Sort.swp d i j := rfl
theorem size_swp (d : Array α) (i j : Nat) : (Go.Sort.swp d i j).size = d.size := by simp [Go.Sort.swp]
end
theorem ilt_nat (a b : Nat) : ilt (a : Int) (b : Int) = decide (a < b) := by rw [ilt_eq]; simp
theorem ile_nat (a b : Nat) : ile (a : Int) (b : Int) = decide (a ≤ b) := by rw [ile_eq]; simp
theorem ieq_nat (a b : Nat) : ieq (a : Int) (b : Int) = decide (a = b) := by
 rw [ieq_eq]
 by_cases h : a = b
 ·simp [h]
 ·simp [h]; omega
section
theorem wrap_add {a b : Nat} (h : a + b < 9223372036854775808) : IntKind.wrap .i64 ((a : Int) + (b : Int)) = ((a + b : Nat) : Int) := by rw [wrap_in (by omega)]; omega
theorem wrap_add1 {a : Nat} (h : a + 1 < 9223372036854775808) : IntKind.wrap .i64 ((a : Int) + 1) = ((a + 1 : Nat) : Int) := by rw [wrap_in (by omega)]; omega
theorem wrap_2mul {a : Nat} (h : 2 * a < 9223372036854775808) : IntKind.wrap .i64 ((2 : Int) * (a : Int)) = ((2 * a : Nat) : Int) := by rw [wrap_in (by omega)]; omega
theorem wrap_mul1 {a : Nat} (h : a < 9223372036854775808) : IntKind.wrap .i64 ((a : Int) * 1) = ((a * 1 : Nat) : Int) := by rw [wrap_in (by omega)]; omega
theorem wrap_mul2 {a : Nat} (h : a * 2 < 9223372036854775808) : IntKind.wrap .i64 ((a : Int) * 2) = ((a * 2 : Nat) : Int) := by rw [wrap_in (by omega)]; omega
theorem wrap_mul3 {a : Nat} (h : a * 3 < 9223372036854775808) : IntKind.wrap .i64 ((a : Int) * 3) = ((a * 3 : Nat) : Int) := by rw [wrap_in (by omega)]; omega
theorem wrap_sub {a b : Nat} (h : b ≤ a ∧ a < 9223372036854775808) : IntKind.wrap .i64 ((a : Int) - (b : Int)) = ((a - b : Nat) : Int) := by rw [wrap_in (by omega)]; omega
theorem wrap_sub1 {a : Nat} (h : 1 ≤ a ∧ a < 9223372036854775808) : IntKind.wrap .i64 ((a : Int) - 1) = ((a - 1 : Nat) : Int) := by rw [wrap_in (by omega)]; omega
theorem quo_2 {a : Nat} (h : a < 9223372036854775808) : quo? .i64 (a : Int) 2 = some ((a / 2 : Nat) : Int) := by
 rw [quo_eq, quoR, if_neg (by omega), Int.tdiv_eq_ediv_of_nonneg (by omega), wrap_in (by omega)]; rfl
theorem quo_4 {a : Nat} (h : a < 9223372036854775808) : quo? .i64 (a : Int) 4 = some ((a / 4 : Nat) : Int) := by
 rw [quo_eq, quoR, if_neg (by omega), Int.tdiv_eq_ediv_of_nonneg (by omega), wrap_in (by omega)]; rfl
theorem quo_8 {a : Nat} (h : a < 9223372036854775808) : quo? .i64 (a : Int) 8 = some ((a / 8 : Nat) : Int) := by
 rw [quo_eq, quoR, if_neg (by omega), Int.tdiv_eq_ediv_of_nonneg (by omega), wrap_in (by omega)]; rfl
end
end Go.Pev.Pl
end
section
namespace Go.Pev.Pl
section
variable {α : Type}
theorem idx_l {xs : List α} {n : Nat} (z : α) (h : n < xs.length) : idx xs (n : Int) = some (xs.getD n z) := by
 rw [idx_eq, idxR, if_neg (by omega)]
 simp [h]
theorem idx_get (xs : List α) (n : Nat) : idx xs (n : Int) = xs[n]? := by
 rw [idx_eq, idxR, if_neg (by omega)]
 simp
theorem idx_zero (xs : List α) : idx xs (0 : Int) = xs.head? := by
 rw [idx_eq, idxR, if_neg (by omega)]
 cases xs <;> rfl
theorem dget_l (xs : List α) (n : Nat) (z : α) : dget xs (dnat (n : Int)) z = xs.getD n z := by simp [dget, dnat]
theorem dset_l (xs : List α) (n : Nat) (x : α) : dset xs (dnat (n : Int)) x = xs.set n x := by simp [dset, dnat]
theorem dlen_l (xs : List α) : dlen xs = (xs.length : Int) := rfl
theorem dnat_l (n : Nat) : dnat (n : Int) = n := by simp [dnat]
theorem dapp_l (xs ys : List α) : dapp xs ys = xs ++ ys := rfl
theorem subl_l {xs : List α} {l h : Nat} (h1 : l ≤ h) (h2 : h ≤ xs.length) : subl xs (l : Int) (h : Int) = some ((xs.take h).drop l) := by
 rw [subl_eq, sublR, if_pos (by omega)]
 simp
end
theorem fits_l {n : Int} (h : n ≤ 4294967296) : fits n = true := (fits_iff n).2 h
theorem ieq_dlen {α β : Type} (xs : List α) (ys : List β) : ieq (dlen xs) (dlen ys) = decide (xs.length = ys.length) := by rw [dlen_l, dlen_l, ieq_nat]
theorem ieq_dec (a b : Int) : ieq a b = decide (a = b) := by
 rw [ieq_eq]
 by_cases h : a = b <;> simp [h]
def walk {α β ρ : Type} (f : β → α → α ⊕ ρ) (fin : α → ρ) : List β → α → ρ
 | [], a => fin a
 | x :: xs, a => match f x a with
  | .inl a => walk f fin xs a
  | .inr r => r
theorem walk_rule {σ ρ α β : Type} {step : σ → Option (σ ⊕ ρ)} (st : Nat → α → σ) (xs : List β) (f : β → α → α ⊕ ρ) (fin : α → ρ) (I : Nat → α → Prop)
  (h : ∀ i x a, i < xs.length → xs[i]? = some x → I i a → (∀ a', f x a = .inl a' → step (st i a) = some (.inl (st (i + 1) a')) ∧ I (i + 1) a') ∧ (∀ r, f x a = .inr r → step (st i a) = some (.inr r)))
  (hN : ∀ a, I xs.length a → step (st xs.length a) = some (.inr (fin a))) :
  ∀ (m i n : Nat) (a : α), xs.length - i = m → i ≤ xs.length → m < n → I i a → iterO step n (st i a) = some (walk f fin (xs.drop i) a) := by
 intro m
 induction m with
 | zero =>
  intro i n a hk hi hn hI
  obtain ⟨n, rfl⟩ : ∃ k, n = k + 1 := ⟨n - 1, by omega⟩
  have e : i = xs.length := by omega
  subst e
  rw [iterO, hN a hI, List.drop_length]
  rfl
 | succ m ih =>
  intro i n a hk hi hn hI
  obtain ⟨n, rfl⟩ : ∃ k, n = k + 1 := ⟨n - 1, by omega⟩
  have hi' : i < xs.length := by omega
  obtain ⟨g1, g2⟩ := h i xs[i] a hi' (by simp [hi']) hI
  rw [List.drop_eq_getElem_cons hi', walk, iterO]
  cases hf : f xs[i] a with
  | inl a' =>
   obtain ⟨e, hI'⟩ := g1 a' hf
   rw [e]
   exact ih (i + 1) n a' (by omega) (by omega) (by omega) hI'
  | inr r => rw [g2 r hf]
theorem walkL {σ ρ α β : Type} {step : σ → Option (σ ⊕ ρ)} (st : Nat → α → σ) (xs : List β) (f : β → α → α ⊕ ρ) (fin : α → ρ) (I : Nat → α → Prop) (hs : xs.length < 9223372036854775808)
  (h : ∀ i x a, i < xs.length → xs[i]? = some x → I i a → (∀ a', f x a = .inl a' → step (st i a) = some (.inl (st (i + 1) a')) ∧ I (i + 1) a') ∧ (∀ r, f x a = .inr r → step (st i a) = some (.inr r)))
  (hN : ∀ a, I xs.length a → step (st xs.length a) = some (.inr (fin a))) (a : α) (h0 : I 0 a) : iterL step many (st 0 a) = some (walk f fin xs a) := by
 have hm : 9223372036854775808 < many := by simp only [many]; omega
 rw [iterL_eq, walk_rule st xs f fin I h hN xs.length 0 many a (by omega) (by omega) (by omega) h0]
 rfl
theorem eq_of_places {α : Type} {xs ys : List α} (z : α) (hl : xs.length = ys.length) (h : ∀ j, j < xs.length → xs.getD j z = ys.getD j z) : xs = ys := by
 apply List.ext_getElem hl
 intro i h1 h2
 have := h i h1
 simpa [h1, h2] using this
theorem scan_rule {σ ρ : Type} {step : σ → Option (σ ⊕ ρ)} (st : Nat → σ) (N : Nat) (P : Nat → Bool) (rt : Nat → ρ) (rf : ρ)
  (h : ∀ i, i < N → step (st i) = if P i then some (.inr (rt i)) else some (.inl (st (i + 1)))) (hN : step (st N) = some (.inr rf)) :
  ∀ (m i n : Nat), N - i = m → i ≤ N → m < n → (∃ k, i ≤ k ∧ k < N ∧ P k = true ∧ (∀ j, i ≤ j → j < k → P j = false) ∧ iterO step n (st i) = some (rt k)) ∨ ((∀ j, i ≤ j → j < N → P j = false) ∧ iterO step n (st i) = some rf) := by
 intro m
 induction m with
 | zero =>
  intro i n hk hi hn
  obtain ⟨n, rfl⟩ : ∃ k, n = k + 1 := ⟨n - 1, by omega⟩
  have e : i = N := by omega
  subst e
  exact .inr ⟨fun j h1 h2 => by omega, by rw [iterO, hN]⟩
 | succ m ih =>
  intro i n hk hi hn
  obtain ⟨n, rfl⟩ : ∃ k, n = k + 1 := ⟨n - 1, by omega⟩
  have hi' : i < N := by omega
  cases hP : P i
  ·have e : iterO step (n + 1) (st i) = iterO step n (st (i + 1)) := by rw [iterO, h i hi', hP]; rfl
   rw [e]
   rcases ih (i + 1) n (by omega) (by omega) (by omega) with ⟨k, h1, h2, h3, h4, h5⟩ | ⟨h1, h2⟩
   ·refine .inl ⟨k, by omega, h2, h3, fun j a1 a2 => ?_, h5⟩
    by_cases ej : j = i
    ·subst ej; exact hP
    ·exact h4 j (by omega) a2
   ·refine .inr ⟨fun j a1 a2 => ?_, h2⟩
    by_cases ej : j = i
    ·subst ej; exact hP
    ·exact h1 j (by omega) a2
  ·exact .inl ⟨i, Nat.le_refl _, hi', hP, fun j a1 a2 => by omega, by rw [iterO, h i hi', hP]; rfl⟩
theorem scanL {σ ρ : Type} {step : σ → Option (σ ⊕ ρ)} (st : Nat → σ) (N : Nat) (P : Nat → Bool) (rt : Nat → ρ) (rf : ρ) (hs : N < 9223372036854775808)
  (h : ∀ i, i < N → step (st i) = if P i then some (.inr (rt i)) else some (.inl (st (i + 1)))) (hN : step (st N) = some (.inr rf)) :
  (∃ k, k < N ∧ P k = true ∧ (∀ j, j < k → P j = false) ∧ iterL step many (st 0) = some (rt k)) ∨ ((∀ j, j < N → P j = false) ∧ iterL step many (st 0) = some rf) := by
 have hm : 9223372036854775808 < many := by simp only [many]; omega
 rw [iterL_eq]
 rcases scan_rule st N P rt rf h hN N 0 many rfl (by omega) (by omega) with ⟨k, h1, h2, h3, h4, h5⟩ | ⟨h1, h2⟩
 ·exact .inl ⟨k, h2, h3, fun j a => h4 j (by omega) a, h5⟩
 ·exact .inr ⟨fun j a => h1 j (by omega) a, h2⟩
end Go.Pev.Pl
end
section
namespace Go.Pev.Pl
inductive Tok where
 | ver (v : Int)
 | arc (u v : Int)
 deriving DecidableEq
namespace Tok
def st : Tok → Int
 | .ver v => v
 | .arc _ v => v
def step (s : List Int × List Int) : Tok → Option (List Int × List Int)
 | .ver v => match s.1 with
  | w :: _ => if w = v then some s else none
  | [] => none
 | .arc u v => match s.1 with
  | w :: r => if w = u then match r with
    | p :: r' => if p = v then some (p :: r', s.2) else if v ∈ s.2 then none else some (v :: w :: r, v :: s.2)
    | [] => if v ∈ s.2 then none else some (v :: w :: r, v :: s.2)
   else none
  | [] => none
def run : List Int × List Int → List Tok → Option (List Int × List Int)
 | s, [] => some s
 | s, t :: l => match step s t with
  | some s => run s l
  | none => none
theorem run_append (s : List Int × List Int) (a b : List Tok) : run s (a ++ b) = (run s a).bind fun s => run s b := by
 induction a generalizing s with
 | nil => rfl
 | cons t a ih =>
  simp only [List.cons_append, run]
  cases step s t with
  | none => rfl
  | some s => exact ih s
theorem step_cases {s s' : List Int × List Int} {t : Tok} (h : step s t = some s') :
  (∃ v r, t = .ver v ∧ s.1 = v :: r ∧ s' = s) ∨
  (∃ u v r, t = .arc u v ∧ s.1 = u :: v :: r ∧ s' = (v :: r, s.2)) ∨
  (∃ u v r, t = .arc u v ∧ s.1 = u :: r ∧ r.head? ≠ some v ∧ v ∉ s.2 ∧ s' = (v :: u :: r, v :: s.2)) := by
 obtain ⟨way, c⟩ := s
 cases t with
 | ver v =>
  cases way with
  | nil => simp [step] at h
  | cons w r =>
   simp only [step] at h
   split at h
   ·rename_i e; cases h; exact .inl ⟨v, r, rfl, by simp [e], rfl⟩
   ·cases h
 | arc u v =>
  cases way with
  | nil => simp [step] at h
  | cons w r =>
   simp only [step] at h
   split at h
   ·rename_i e
    subst e
    cases r with
    | nil =>
     simp only at h
     split at h
     ·cases h
     ·rename_i hc; cases h; exact .inr (.inr ⟨w, v, [], rfl, rfl, by simp, hc, rfl⟩)
    | cons p r =>
     simp only at h
     split at h
     ·rename_i e; subst e; cases h; exact .inr (.inl ⟨w, p, r, rfl, rfl, rfl⟩)
     ·split at h
      ·cases h
      ·rename_i e hc; cases h; exact .inr (.inr ⟨w, v, p :: r, rfl, rfl, by simpa using e, hc, rfl⟩)
   ·cases h
theorem step_ver (v : Int) (r c : List Int) : step (v :: r, c) (.ver v) = some (v :: r, c) := by simp [step]
theorem step_pop (u v : Int) (r c : List Int) : step (u :: v :: r, c) (.arc u v) = some (v :: r, c) := by simp [step]
theorem step_push (u v : Int) (r c : List Int) (h1 : r.head? ≠ some v) (h2 : v ∉ c) : step (u :: r, c) (.arc u v) = some (v :: u :: r, v :: c) := by
 cases r with
 | nil => simp [step, h2]
 | cons p r =>
  have : p ≠ v := by simpa using h1
  simp [step, h2, this]
def Inv (s : List Int × List Int) : Prop := s.1.Nodup ∧ (∀ x ∈ s.1, x ∈ s.2)
theorem step_inv {s s' : List Int × List Int} {t : Tok} (h : step s t = some s') (hi : Inv s) : Inv s' ∧ (∀ x ∈ s.2, x ∈ s'.2) ∧ s'.1.head? = some t.st := by
 obtain ⟨way, c⟩ := s
 obtain ⟨h1, h2⟩ := hi
 rcases step_cases h with ⟨v, r, rfl, hw, rfl⟩ | ⟨u, v, r, rfl, hw, rfl⟩ | ⟨u, v, r, rfl, hw, _, hn, rfl⟩
 ·exact ⟨⟨h1, h2⟩, fun x hx => hx, by rw [hw]; rfl⟩
 ·simp only at hw h1 h2
  subst hw
  refine ⟨⟨?_, ?_⟩, fun x hx => hx, rfl⟩
  ·exact (List.nodup_cons.1 h1).2
  ·intro x hx; exact h2 x (by simp only at hx; simp [List.mem_cons.1 hx])
 ·simp only at hw h1 h2 hn
  subst hw
  refine ⟨⟨?_, ?_⟩, fun x hx => by simp [hx], rfl⟩
  ·exact List.nodup_cons.2 ⟨fun hm => hn (h2 _ hm), h1⟩
  ·intro x hx
   rcases List.mem_cons.1 hx with rfl | hx
   ·simp
   ·exact List.mem_cons_of_mem _ (h2 x hx)
theorem run_inv {l : List Tok} : ∀ {s s' : List Int × List Int}, run s l = some s' → Inv s → Inv s' ∧ (∀ x ∈ s.2, x ∈ s'.2) ∧ ∀ t, l.getLast? = some t → s'.1.head? = some t.st := by
 induction l with
 | nil => intro s s' h hi; cases h; exact ⟨hi, fun x hx => hx, fun t ht => by simp at ht⟩
 | cons t l ih =>
  intro s s' h hi
  simp only [run] at h
  split at h
  ·rename_i s1 h1
   obtain ⟨q1, q2, q3⟩ := step_inv h1 hi
   obtain ⟨p1, p2, p3⟩ := ih h q1
   refine ⟨p1, fun x hx => p2 x (q2 x hx), fun t' ht' => ?_⟩
   cases l with
   | nil => simp at ht'; subst ht'; simp only [run] at h; cases h; exact q3
   | cons y l => exact p3 t' (by rw [List.getLast?_cons_cons] at ht'; exact ht')
  ·cases h
theorem run_frame {Z : Int → Prop} : ∀ {l : List Tok} {way way' c d c2 low : List Int}, run (way, c) l = some (way', d) → way ≠ [] → (∀ x, x ∈ c2 ↔ x ∈ c ∨ Z x) →
  (∀ u v, .arc u v ∈ l → ¬ Z v) → (∀ y ∈ low, Z y) → ∃ d2, run (way ++ low, c2) l = some (way' ++ low, d2) ∧ (∀ x, x ∈ d2 ↔ x ∈ d ∨ Z x) := by
 intro l
 induction l with
 | nil => intro way way' c d c2 low h _ hc _ _; cases h; exact ⟨c2, rfl, hc⟩
 | cons t l ih =>
  intro way way' c d c2 low h hne hc hz hl
  simp only [run] at h
  split at h
  ·rename_i s1 h1
   have hz' : ∀ u v, Tok.arc u v ∈ l → ¬ Z v := fun u v hm => hz u v (List.mem_cons_of_mem _ hm)
   rcases step_cases h1 with ⟨v, r, rfl, hw, rfl⟩ | ⟨u, v, r, rfl, hw, rfl⟩ | ⟨u, v, r, rfl, hw, hh, hn, rfl⟩
   ·simp only at hw
    subst hw
    obtain ⟨d2, e1, e2⟩ := ih h hne hc hz' hl
    exact ⟨d2, by simp only [run, List.cons_append, step_ver]; exact e1, e2⟩
   ·simp only at hw
    subst hw
    obtain ⟨d2, e1, e2⟩ := ih h (by simp) hc hz' hl
    exact ⟨d2, by simp only [run, List.cons_append, step_pop]; exact e1, e2⟩
   ·simp only at hw hn
    subst hw
    have hzv := hz u v (by simp)
    have hn2 : v ∉ c2 := by rw [hc]; rintro (h | h); exact hn h; exact hzv h
    have hh2 : (r ++ low).head? ≠ some v := by
     cases r with
     | nil =>
      cases low with
      | nil => simp
      | cons y low =>
       simp only [List.nil_append, List.head?_cons, ne_eq, Option.some.injEq]
       rintro rfl
       exact hzv (hl _ (by simp))
     | cons p r => simpa using hh
    obtain ⟨d2, e1, e2⟩ := ih (c2 := v :: c2) h (by simp) (by intro x; simp only [List.mem_cons, hc, or_assoc]) hz' hl
    exact ⟨d2, by simp only [run, List.cons_append, step_push _ _ _ _ hh2 hn2]; exact e1, e2⟩
  ·cases h
theorem run_less {z : Int} : ∀ {l : List Tok} {way way' c2 d2 c : List Int}, run (way, c2) l = some (way', d2) → z ∉ way → (∀ x, x ∈ c2 ↔ x ∈ c ∨ x = z) → z ∉ c →
  .ver z ∉ l ∧ ∃ d, run (way, c) l = some (way', d) ∧ (∀ x, x ∈ d2 ↔ x ∈ d ∨ x = z) ∧ z ∉ d := by
 intro l
 induction l with
 | nil => intro way way' c2 d2 c h _ hc hz; cases h; exact ⟨by simp, c, rfl, hc, hz⟩
 | cons t l ih =>
  intro way way' c2 d2 c h hzw hc hz
  simp only [run] at h
  split at h
  ·rename_i s1 h1
   rcases step_cases h1 with ⟨v, r, rfl, hw, rfl⟩ | ⟨u, v, r, rfl, hw, rfl⟩ | ⟨u, v, r, rfl, hw, hh, hn, rfl⟩
   ·simp only at hw
    subst hw
    obtain ⟨e0, d, e1, e2, e3⟩ := ih h hzw hc hz
    refine ⟨?_, d, by simp only [run, step_ver]; exact e1, e2, e3⟩
    rintro hm
    rcases List.mem_cons.1 hm with hm | hm
    ·cases hm; exact hzw (by simp)
    ·exact e0 hm
   ·simp only at hw
    subst hw
    obtain ⟨e0, d, e1, e2, e3⟩ := ih h (fun hm => hzw (List.mem_cons_of_mem _ hm)) hc hz
    refine ⟨?_, d, by simp only [run, step_pop]; exact e1, e2, e3⟩
    rintro hm
    rcases List.mem_cons.1 hm with hm | hm
    ·cases hm
    ·exact e0 hm
   ·simp only at hw hn
    subst hw
    have hvz : v ≠ z := by rintro rfl; exact hn ((hc v).2 (.inr rfl))
    have hn' : v ∉ c := fun hm => hn ((hc v).2 (.inl hm))
    obtain ⟨e0, d, e1, e2, e3⟩ := ih (c := v :: c) h (by intro hm; rcases List.mem_cons.1 hm with hm | hm; exact hvz hm.symm; exact hzw hm)
     (by intro x; simp only [List.mem_cons, hc, or_assoc])
     (by intro hm; rcases List.mem_cons.1 hm with hm | hm; exact hvz hm.symm; exact hz hm)
    refine ⟨?_, d, by simp only [run, step_push _ _ _ _ hh hn']; exact e1, e2, e3⟩
    rintro hm
    rcases List.mem_cons.1 hm with hm | hm
    ·cases hm
    ·exact e0 hm
  ·cases h
def Rot (a b : List Tok) : Prop := ∃ x y, a = x ++ y ∧ b = y ++ x
theorem Rot.refl (a : List Tok) : Rot a a := ⟨[], a, rfl, by simp⟩
theorem Rot.symm {a b : List Tok} (h : Rot a b) : Rot b a := by obtain ⟨x, y, h1, h2⟩ := h; exact ⟨y, x, h2, h1⟩
theorem Rot.trans {a b c : List Tok} (h : Rot a b) (g : Rot b c) : Rot a c := by
 obtain ⟨x, y, rfl, h2⟩ := h
 obtain ⟨z, w, h3, rfl⟩ := g
 rw [h2] at h3
 rcases List.append_eq_append_iff.1 h3 with ⟨k, h4, h5⟩ | ⟨k, h4, h5⟩
 ·subst h4 h5
  exact ⟨k, w ++ y, by simp, by simp⟩
 ·subst h4 h5
  exact ⟨x ++ z, k, by simp, by simp⟩
theorem Rot.perm {a b : List Tok} (h : Rot a b) : a.Perm b := by
 obtain ⟨x, y, rfl, rfl⟩ := h
 exact List.perm_append_comm
theorem Rot.mem {a b : List Tok} (h : Rot a b) (t : Tok) : t ∈ a ↔ t ∈ b := h.perm.mem_iff
theorem Rot.nodup {a b : List Tok} (h : Rot a b) : a.Nodup ↔ b.Nodup := h.perm.nodup_iff
theorem Rot.length {a b : List Tok} (h : Rot a b) : a.length = b.length := h.perm.length_eq
inductive T : List Tok → Prop
 | one (v : Int) : T [.ver v]
 | add (x : Tok) (l : List Tok) (v : Int) : T (x :: l) → x.st ≠ v → .ver v ∉ x :: l → T (x :: .arc x.st v :: .ver v :: .arc v x.st :: l)
 | rot (a b : List Tok) : T (a ++ b) → T (b ++ a)
theorem T.of_rot {a b : List Tok} (h : T a) (r : Rot a b) : T b := by obtain ⟨x, y, rfl, rfl⟩ := r; exact T.rot x y h
theorem T.facts {l : List Tok} (h : T l) : l ≠ [] ∧ (∀ t ∈ l, .ver t.st ∈ l) ∧ (∀ u v, .arc u v ∈ l → .ver u ∈ l ∧ .ver v ∈ l ∧ .arc v u ∈ l ∧ u ≠ v) := by
 induction h with
 | one v => exact ⟨by simp, by simp [st], by simp⟩
 | add x l v h hne hv ih =>
  obtain ⟨_, i2, i3⟩ := ih
  have hsub : ∀ t, t ∈ x :: l → t ∈ x :: Tok.arc x.st v :: .ver v :: .arc v x.st :: l := by
   intro t ht
   rcases List.mem_cons.1 ht with rfl | ht
   ·simp
   ·simp [ht]
  have hx := hsub _ (i2 x (by simp))
  have cases3 : ∀ t, t ∈ x :: Tok.arc x.st v :: .ver v :: .arc v x.st :: l → t ∈ x :: l ∨ t = .arc x.st v ∨ t = .ver v ∨ t = .arc v x.st := by
   intro t ht
   simp only [List.mem_cons] at ht ⊢
   rcases ht with h | h | h | h | h <;> simp [h]
  refine ⟨by simp, fun t ht => ?_, fun a b hab => ?_⟩
  ·rcases cases3 t ht with h | rfl | rfl | rfl
   ·exact hsub _ (i2 t h)
   ·simp [st]
   ·simp [st]
   ·exact hx
  ·rcases cases3 _ hab with h | h | h | h
   ·obtain ⟨p1, p2, p3, p4⟩ := i3 a b h
    exact ⟨hsub _ p1, hsub _ p2, hsub _ p3, p4⟩
   ·cases h; exact ⟨hx, by simp, by simp, hne⟩
   ·cases h
   ·cases h; exact ⟨by simp, hx, by simp, Ne.symm hne⟩
 | rot a b h ih =>
  obtain ⟨i1, i2, i3⟩ := ih
  have hm : ∀ t, t ∈ a ++ b ↔ t ∈ b ++ a := fun t => List.perm_append_comm.mem_iff
  refine ⟨by intro e; simp only [List.append_eq_nil_iff] at e; exact i1 (by simp [e.1, e.2]), fun t ht => (hm _).1 (i2 t ((hm _).2 ht)), fun u v huv => ?_⟩
  obtain ⟨p1, p2, p3, p4⟩ := i3 u v ((hm _).2 huv)
  exact ⟨(hm _).1 p1, (hm _).1 p2, (hm _).1 p3, p4⟩
theorem T.nodup {l : List Tok} (h : T l) : l.Nodup := by
 induction h with
 | one v => simp
 | add x l v h hne hv ih =>
  obtain ⟨_, _, f3⟩ := h.facts
  have h1 : Tok.arc x.st v ∉ x :: l := fun hm => hv (f3 _ _ hm).2.1
  have h2 : Tok.arc v x.st ∉ x :: l := fun hm => hv (f3 _ _ hm).1
  simp only [List.mem_cons, not_or] at h1 h2 hv
  have ih' := List.nodup_cons.1 ih
  simp only [List.nodup_cons, List.mem_cons, not_or]
  refine ⟨⟨fun e => h1.1 e.symm, fun e => hv.1 e.symm, fun e => h2.1 e.symm, ih'.1⟩, ⟨by simp, ?_, h1.2⟩, ⟨by simp, hv.2⟩, h2.2, ih'.2⟩
  intro e
  simp only [Tok.arc.injEq] at e
  exact hne e.1
 | rot a b h ih => exact (List.perm_append_comm.nodup_iff).1 ih
def C (l : List Tok) : Prop := ∀ r, Rot l r → ∀ t, r.getLast? = some t → ∃ c, run ([t.st], [t.st]) r = some ([t.st], c) ∧ ∀ x, x ∈ c ↔ .ver x ∈ l
end Tok
end Go.Pev.Pl
end
section
namespace Go.Pev.Pl.Tok
theorem getLast?_app {a b : List Tok} {t : Tok} (h : b.getLast? = some t) : (a ++ b).getLast? = some t := by
 rw [List.getLast?_append, h]; rfl
theorem run_cons (s : List Int × List Int) (t : Tok) (l : List Tok) : run s (t :: l) = (step s t).bind fun s => run s l := by
 rw [run]
 cases step s t <;> rfl
theorem Inv_one (v : Int) : Inv ([v], [v]) := ⟨by simp, by simp⟩
theorem T.toC {l : List Tok} (h : T l) : C l := by
 induction h with
 | one v =>
  intro r hr t ht
  have : r = [.ver v] := List.perm_singleton.1 hr.perm.symm
  subst this
  simp at ht
  subst ht
  exact ⟨[v], by simp [run, st, step], by simp⟩
 | rot a b h ih =>
  intro r hr t ht
  obtain ⟨c, h1, h2⟩ := ih r (Rot.trans ⟨a, b, rfl, rfl⟩ hr) t ht
  exact ⟨c, h1, fun x => (h2 x).trans (List.perm_append_comm.mem_iff)⟩
 | add x l v h hne hv ih =>
  obtain ⟨_, f2, f3⟩ := h.facts
  have hnz : ∀ u w, Tok.arc u w ∈ x :: l → ¬ (w = v) := fun u w hm e => hv (e ▸ (f3 u w hm).2.1)
  have fin : ∀ {d2 c : List Int}, (∀ y, y ∈ d2 ↔ y ∈ c ∨ y = v) → (∀ y, y ∈ c ↔ .ver y ∈ x :: l) → ∀ y, y ∈ d2 ↔ Tok.ver y ∈ x :: .arc x.st v :: .ver v :: .arc v x.st :: l := by
   intro d2 c e1 e2 y
   rw [e1, e2]
   simp only [List.mem_cons, reduceCtorEq, false_or, Tok.ver.injEq]
   constructor
   ·rintro ((h | h) | h) <;> simp [h]
   ·rintro (h | h | h) <;> simp [h]
  have triple : ∀ {w' c1 : List Int}, Inv (x.st :: w', c1) → v ∉ c1 → ∀ p, run (x.st :: w', c1) (.arc x.st v :: .ver v :: .arc v x.st :: p) = run (x.st :: w', v :: c1) p := by
   intro w' c1 hi hn p
   have hh : w'.head? ≠ some v := by
    intro e
    exact hn (hi.2 v (List.mem_cons_of_mem _ (List.mem_of_head? e)))
   rw [run_cons, step_push _ _ _ _ hh hn, Option.bind_some, run_cons, step_ver, Option.bind_some, run_cons, step_pop, Option.bind_some]
  have G : ∀ q1 p1, l = p1 ++ q1 → ∀ t, (q1 ++ x :: .arc x.st v :: .ver v :: .arc v x.st :: p1).getLast? = some t → ∃ c, run ([t.st], [t.st]) (q1 ++ x :: .arc x.st v :: .ver v :: .arc v x.st :: p1) = some ([t.st], c) ∧ ∀ y, y ∈ c ↔ .ver y ∈ x :: .arc x.st v :: .ver v :: .arc v x.st :: l := by
   intro q1 p1 hl t ht
   have hrot : Rot (x :: l) (q1 ++ x :: p1) := ⟨x :: p1, q1, by simp [hl], rfl⟩
   have ht0 : ∃ t0, (q1 ++ x :: p1).getLast? = some t0 ∧ t0.st = t.st := by
    cases p1 with
    | nil =>
     refine ⟨x, getLast?_app (by simp), ?_⟩
     rw [show q1 ++ [x, Tok.arc x.st v, .ver v, .arc v x.st] = (q1 ++ [x, Tok.arc x.st v, .ver v]) ++ [Tok.arc v x.st] by simp, List.getLast?_concat] at ht
     cases ht; rfl
    | cons y p1 =>
     refine ⟨t, ?_, rfl⟩
     rw [show q1 ++ x :: Tok.arc x.st v :: .ver v :: .arc v x.st :: y :: p1 = (q1 ++ [x, Tok.arc x.st v, .ver v, .arc v x.st]) ++ y :: p1 by simp, List.getLast?_append] at ht
     rw [show q1 ++ x :: y :: p1 = (q1 ++ [x]) ++ y :: p1 by simp, List.getLast?_append]
     exact ht
   obtain ⟨t0, e0, e1⟩ := ht0
   obtain ⟨c, h1, h2⟩ := ih _ hrot t0 e0
   rw [e1, show q1 ++ x :: p1 = (q1 ++ [x]) ++ p1 by simp, run_append, Option.bind_eq_some_iff] at h1
   obtain ⟨⟨w1, c1⟩, g1, g2⟩ := h1
   obtain ⟨i1, i2, i3⟩ := run_inv g1 (Inv_one _)
   obtain ⟨j1, j2, j3⟩ := run_inv g2 i1
   have i3' := i3 x (by simp)
   simp only at i3'
   cases w1 with
   | nil => simp at i3'
   | cons w0 w' =>
    simp at i3'
    subst i3'
    have hn : v ∉ c1 := fun hm => hv ((h2 v).1 (j2 v hm))
    obtain ⟨d2, k1, k2⟩ := run_frame (Z := (· = v)) (c2 := v :: c1) (low := []) g2 (by simp) (fun y => by simp [or_comm]) (fun u w hm => hnz u w (by simp [hl, hm])) (by simp)
    refine ⟨d2, ?_, fin k2 h2⟩
    rw [show q1 ++ x :: Tok.arc x.st v :: .ver v :: .arc v x.st :: p1 = (q1 ++ [x]) ++ Tok.arc x.st v :: .ver v :: .arc v x.st :: p1 by simp, run_append, g1, Option.bind_some, triple i1 hn]
    simpa using k1
  intro r hr t ht
  obtain ⟨p, q, hpq, rfl⟩ := hr
  have base : ∀ t0 : Tok, (l ++ [x]).getLast? = some t0 → t0 = x := fun t0 h => by rw [List.getLast?_concat] at h; exact (Option.some.inj h).symm
  obtain ⟨c, h1, h2⟩ := ih (l ++ [x]) ⟨[x], l, rfl, rfl⟩ x (by simp)
  match p with
  | [] =>
   simp only [List.nil_append] at hpq
   subst hpq
   have := G [] l (by simp) t (by simpa using ht)
   simpa using this
  | [y] =>
   simp only [List.cons_append, List.nil_append, List.cons.injEq] at hpq
   obtain ⟨rfl, rfl⟩ := hpq
   have : t = x := by
    rw [List.getLast?_concat] at ht
    exact (Option.some.inj ht).symm
   subst this
   have hn : v ∉ [t.st] := by simp; exact Ne.symm hne
   obtain ⟨d2, k1, k2⟩ := run_frame (Z := (· = v)) (c2 := [v, t.st]) (low := []) h1 (by simp) (fun y => by simp [or_comm]) (fun u w hm => hnz u w (by simpa [or_comm] using hm)) (by simp)
   refine ⟨d2, ?_, fin k2 h2⟩
   rw [show (Tok.arc t.st v :: .ver v :: .arc v t.st :: l) ++ [t] = Tok.arc t.st v :: .ver v :: .arc v t.st :: (l ++ [t]) by simp, triple (Inv_one _) hn]
   simpa using k1
  | [y, z] =>
   simp only [List.cons_append, List.nil_append, List.cons.injEq] at hpq
   obtain ⟨rfl, rfl, rfl⟩ := hpq
   have : t = .arc x.st v := by
    rw [show (Tok.ver v :: .arc v x.st :: l) ++ [x, .arc x.st v] = (Tok.ver v :: .arc v x.st :: l ++ [x]) ++ [.arc x.st v] by simp, List.getLast?_concat] at ht
    exact (Option.some.inj ht).symm
   subst this
   obtain ⟨d2, k1, k2⟩ := run_frame (Z := (· = v)) (c2 := [x.st, v]) (low := [v]) h1 (by simp) (fun y => by simp) (fun u w hm => hnz u w (by simpa [or_comm] using hm)) (by simp)
   refine ⟨d2, ?_, fin k2 h2⟩
   rw [show (Tok.ver v :: .arc v x.st :: l) ++ [x, .arc x.st v] = Tok.ver v :: .arc v x.st :: ((l ++ [x]) ++ [.arc x.st v]) by simp]
   rw [run_cons]
   show (step ([v], [v]) _).bind _ = _
   rw [step_ver, Option.bind_some, run_cons, step_push _ _ _ _ (by simp) (by simp; exact hne), Option.bind_some, run_append]
   rw [show ([x.st] ++ [v] : List Int) = [x.st, v] from rfl] at k1
   rw [k1, Option.bind_some, run_cons, step_pop]
   rfl
  | [y, z, w] =>
   simp only [List.cons_append, List.nil_append, List.cons.injEq] at hpq
   obtain ⟨rfl, rfl, rfl, rfl⟩ := hpq
   have : t = .ver v := by
    rw [show (Tok.arc v x.st :: l) ++ [x, .arc x.st v, .ver v] = (Tok.arc v x.st :: l ++ [x, .arc x.st v]) ++ [.ver v] by simp, List.getLast?_concat] at ht
    exact (Option.some.inj ht).symm
   subst this
   obtain ⟨d2, k1, k2⟩ := run_frame (Z := (· = v)) (c2 := [x.st, v]) (low := [v]) h1 (by simp) (fun y => by simp) (fun u w hm => hnz u w (by simpa [or_comm] using hm)) (by simp)
   refine ⟨d2, ?_, fin k2 h2⟩
   rw [show (Tok.arc v x.st :: l) ++ [x, .arc x.st v, .ver v] = Tok.arc v x.st :: ((l ++ [x]) ++ [.arc x.st v, .ver v]) by simp]
   rw [run_cons]
   show (step ([v], [v]) _).bind _ = _
   rw [step_push _ _ _ _ (by simp) (by simp; exact hne), Option.bind_some, run_append]
   rw [show ([x.st] ++ [v] : List Int) = [x.st, v] from rfl] at k1
   rw [k1, Option.bind_some, run_cons, step_pop, Option.bind_some, run_cons, step_ver]
   rfl
  | y :: z :: w :: w2 :: p1 =>
   simp only [List.cons_append, List.cons.injEq] at hpq
   obtain ⟨rfl, rfl, rfl, rfl, rfl⟩ := hpq
   exact G q p1 rfl t ht
def comp (P : List Tok) : List Int → List Tok
 | [] => []
 | w :: r => (if .ver w ∈ P then [] else [.ver w]) ++ match r with
  | [] => []
  | p :: _ => .arc w p :: comp P r
theorem comp_congr {P P' : List Tok} : ∀ {way : List Int}, (∀ w ∈ way, (Tok.ver w ∈ P ↔ Tok.ver w ∈ P')) → comp P way = comp P' way := by
 intro way
 induction way with
 | nil => intro _; rfl
 | cons w r ih =>
  intro h
  have h1 := h w (by simp)
  have h2 := ih fun x hx => h x (List.mem_cons_of_mem _ hx)
  simp only [comp, h1, h2]
theorem goes_T : ∀ (M P : List Tok) (way c c' : List Int) (r : Int) (t0 : Tok), run (way, c) M = some ([r], c') → Inv (way, c) → P.getLast? = some t0 → way.head? = some t0.st →
  T (P ++ comp P way) → (∀ x, .ver x ∈ P ++ comp P way → x ∈ c) → (∀ x ∈ c', Tok.ver x ∈ P ++ M) → (P ++ M).Nodup → T (P ++ M) := by
 intro M
 induction M with
 | nil =>
  intro P way c c' r t0 h hi hl hh hT hc hc' hn
  cases h
  have := hc' r (hi.2 r (by simp))
  rw [List.append_nil] at this
  simpa [comp, this] using hT
 | cons t M ih =>
  intro P way c c' r t0 h hi hl hh hT hc hc' hn
  rw [run_cons, Option.bind_eq_some_iff] at h
  obtain ⟨⟨w1, c1⟩, h1, h2⟩ := h
  obtain ⟨hi1, hsub, hhd⟩ := step_inv h1 hi
  have asso : P ++ t :: M = (P ++ [t]) ++ M := by simp
  rw [asso] at hn hc' ⊢
  have hnt : t ∉ P := by
   have := (List.nodup_append.1 (List.nodup_append.1 hn).1)
   intro hm
   exact this.2.2 t hm t (by simp) rfl
  rcases step_cases h1 with ⟨v, rr, rfl, hw, e⟩ | ⟨u, v, rr, rfl, hw, e⟩ | ⟨u, v, rr, rfl, hw, hh2, hn2, e⟩
  ·cases e
   simp only at hw
   subst hw
   have key : comp P (v :: rr) = .ver v :: comp (P ++ [.ver v]) (v :: rr) := by
    have e2 : comp P rr = comp (P ++ [.ver v]) rr := comp_congr fun w hwm => by
     have : w ≠ v := by rintro rfl; exact (List.nodup_cons.1 hi.1).1 hwm
     simp [this]
    simp only [comp, hnt, e2]
    simp
   rw [key] at hT hc
   exact ih _ _ _ _ _ (.ver v) h2 hi1 (by simp) hhd (by simpa using hT) (fun x hx => hc x (by simpa using hx)) hc' hn
  ·cases e
   simp only at hw
   subst hw
   have hu : Tok.ver u ∈ P := by
    have hun := (List.nodup_cons.1 hi.1).1
    obtain ⟨g1, _⟩ := run_less (z := u) (c := c.filter (· ≠ u)) h2 hun (fun x => by
     simp only [List.mem_filter, decide_eq_true_eq]
     constructor
     ·intro h
      by_cases e : x = u
      ·exact .inr e
      ·exact .inl ⟨h, by simpa using e⟩
     ·rintro (h | rfl)
      ·exact h.1
      ·exact hi.2 x (by simp)) (by simp)
    have hmono := (run_inv h2 hi1).2.1 u (hi.2 u (by simp))
    have := hc' u hmono
    simp only [List.mem_append, List.mem_singleton, reduceCtorEq, or_false] at this
    rcases this with h | h
    ·exact h
    ·exact absurd h g1
   have key : comp P (u :: v :: rr) = .arc u v :: comp (P ++ [.arc u v]) (v :: rr) := by
    have e2 : comp P (v :: rr) = comp (P ++ [.arc u v]) (v :: rr) := comp_congr fun w hwm => by simp
    rw [← e2]
    simp only [comp, hu]
    simp
   rw [key] at hT hc
   exact ih _ _ _ _ _ (.arc u v) h2 hi1 (by simp) hhd (by simpa using hT) (fun x hx => hc x (by simpa using hx)) hc' hn
  ·cases e
   simp only at hw hn2
   subst hw
   have hu : u = t0.st := by simpa using hh
   subst hu
   have hvc : ∀ x, Tok.ver x ∈ P ++ comp P (t0.st :: rr) → x ≠ v := by rintro x hx rfl; exact hn2 (hc x hx)
   have hvP : Tok.ver v ∉ P ++ comp P (t0.st :: rr) := fun hm => hvc v hm rfl
   have hvP' : Tok.ver v ∉ P := fun hm => hvP (by simp [hm])
   have key : comp (P ++ [.arc t0.st v]) (v :: t0.st :: rr) = .ver v :: .arc v t0.st :: comp P (t0.st :: rr) := by
    have e2 : comp (P ++ [.arc t0.st v]) (t0.st :: rr) = comp P (t0.st :: rr) := comp_congr fun w hwm => by simp
    rw [← e2]
    simp only [comp, List.mem_append, hvP', List.mem_singleton, reduceCtorEq, or_false, if_false]
    rfl
   have hne : t0.st ≠ v := by rintro e; exact hn2 (e ▸ hi.2 t0.st (by simp))
   refine ih _ _ _ _ _ (.arc t0.st v) h2 hi1 (by simp) hhd ?_ ?_ hc' hn
   ·rw [key]
    obtain ⟨P0, rfl⟩ : ∃ P0, P = P0 ++ [t0] := List.getLast?_eq_some_iff.1 hl
    have hT1 : T (t0 :: (comp (P0 ++ [t0]) (t0.st :: rr) ++ P0)) := hT.of_rot ⟨P0, t0 :: comp (P0 ++ [t0]) (t0.st :: rr), by simp, by simp⟩
    have hT2 := T.add t0 _ v hT1 hne (by
     intro hm
     apply hvP
     simp only [List.mem_append, List.mem_cons, List.not_mem_nil, or_false] at hm ⊢
     rcases hm with h | h | h <;> simp [h])
    exact hT2.of_rot ⟨t0 :: .arc t0.st v :: .ver v :: .arc v t0.st :: comp (P0 ++ [t0]) (t0.st :: rr), P0, by simp, by simp⟩
   ·intro x hx
    rw [key] at hx
    simp only [List.mem_append, List.mem_cons, List.not_mem_nil, or_false, reduceCtorEq, Tok.ver.injEq, false_or] at hx
    rcases hx with h | h | h
    ·exact List.mem_cons_of_mem _ (hc x (by simp [h]))
    ·simp [h]
    ·exact List.mem_cons_of_mem _ (hc x (by simp [h]))
def Goes (l : List Tok) : Prop := ∃ r l' c, l = .ver r :: l' ∧ run ([r], [r]) l = some ([r], c) ∧ ∀ x ∈ c, Tok.ver x ∈ l
theorem Goes.toT {l : List Tok} (h : Goes l) (hn : l.Nodup) : T l := by
 obtain ⟨r, l', c, rfl, h1, h2⟩ := h
 rw [run_cons, step_ver, Option.bind_some] at h1
 have := goes_T l' [.ver r] [r] [r] c r (.ver r) h1 (Inv_one r) (by simp) (by simp [st]) (by simp [comp]; exact T.one r) (by simp [comp]) (by simpa using h2) (by simpa using hn)
 simpa using this
theorem T.toGoes {r : Int} {l : List Tok} (h : T (.ver r :: l)) : Goes (.ver r :: l) := by
 obtain ⟨t, ht⟩ : ∃ t, (Tok.ver r :: l).getLast? = some t := ⟨_, List.getLast?_eq_some_getLast (by simp)⟩
 obtain ⟨c, h1, h2⟩ := h.toC _ (Rot.refl _) t ht
 have h1' := h1
 rw [run_cons, Option.bind_eq_some_iff] at h1'
 obtain ⟨s, g1, _⟩ := h1'
 have e : t.st = r := by
  simp only [step] at g1
  split at g1
  ·assumption
  ·cases g1
 rw [e] at h1
 exact ⟨r, l, c, rfl, h1, fun x hx => (h2 x).1 hx⟩
end Go.Pev.Pl.Tok
end
section
namespace Go.Pev.Pl.Tok
theorem T.cons_ver {l : List Tok} (h : T l) : ∃ v r, Rot l (.ver v :: r) := by
 obtain ⟨f1, f2, _⟩ := h.facts
 obtain ⟨t, ht⟩ := List.exists_mem_of_ne_nil l f1
 obtain ⟨a, b, rfl⟩ := List.append_of_mem (f2 t ht)
 exact ⟨t.st, b ++ a, a, .ver t.st :: b, rfl, rfl⟩
theorem T.less {x : Tok} {v : Int} {l : List Tok} (h : T (x :: .arc x.st v :: .ver v :: .arc v x.st :: l)) : T (x :: l) := by
 have hC := h.toC
 have hn := h.nodup
 obtain ⟨_, f2, f3⟩ := h.facts
 have hne : x.st ≠ v := (f3 x.st v (by simp)).2.2.2
 have hvl : Tok.ver v ∉ l := by
  intro hm
  simp only [List.nodup_cons, List.mem_cons, not_or] at hn
  exact hn.2.2.1.2 hm
 have hvx : x ≠ .ver v := by rintro rfl; exact hne rfl
 have key : ∀ p q, l = p ++ q → ∀ t0, (q ++ x :: p).getLast? = some t0 → ∃ c, run ([t0.st], [t0.st]) (q ++ x :: p) = some ([t0.st], c) ∧ ∀ y, y ∈ c ↔ .ver y ∈ x :: l := by
  intro p q hl t0 ht0
  have hrot : Rot (x :: .arc x.st v :: .ver v :: .arc v x.st :: l) (q ++ x :: .arc x.st v :: .ver v :: .arc v x.st :: p) := ⟨x :: .arc x.st v :: .ver v :: .arc v x.st :: p, q, by simp [hl], rfl⟩
  have ht : ∃ t, (q ++ x :: Tok.arc x.st v :: .ver v :: .arc v x.st :: p).getLast? = some t ∧ t.st = t0.st := by
   cases p with
   | nil =>
    rw [List.getLast?_concat] at ht0
    cases ht0
    exact ⟨.arc v x.st, by rw [show q ++ [x, Tok.arc x.st v, .ver v, .arc v x.st] = (q ++ [x, Tok.arc x.st v, .ver v]) ++ [Tok.arc v x.st] by simp, List.getLast?_concat], rfl⟩
   | cons y p =>
    refine ⟨t0, ?_, rfl⟩
    rw [show q ++ x :: Tok.arc x.st v :: .ver v :: .arc v x.st :: y :: p = (q ++ [x, Tok.arc x.st v, .ver v, .arc v x.st]) ++ y :: p by simp, List.getLast?_append]
    rw [show q ++ x :: y :: p = (q ++ [x]) ++ y :: p by simp, List.getLast?_append] at ht0
    exact ht0
  obtain ⟨t, e0, e1⟩ := ht
  obtain ⟨c, h1, h2⟩ := hC _ hrot t e0
  rw [e1, show q ++ x :: Tok.arc x.st v :: .ver v :: .arc v x.st :: p = (q ++ [x]) ++ Tok.arc x.st v :: .ver v :: .arc v x.st :: p by simp, run_append, Option.bind_eq_some_iff] at h1
  obtain ⟨⟨w1, c1⟩, g1, g2⟩ := h1
  obtain ⟨i1, i2, i3⟩ := run_inv g1 (Inv_one _)
  have i3' := i3 x (by simp)
  simp only at i3'
  cases w1 with
  | nil => simp at i3'
  | cons w0 w' =>
   simp at i3'
   subst i3'
   rw [run_cons, Option.bind_eq_some_iff] at g2
   obtain ⟨s1, k1, k2⟩ := g2
   rcases step_cases k1 with ⟨v', r, e, _⟩ | ⟨u', v', r, e, hw, rfl⟩ | ⟨u', v', r, e, hw, hh, hnc, rfl⟩
   ·cases e
   ·cases e
    simp only [List.cons.injEq] at hw
    obtain ⟨_, rfl⟩ := hw
    exfalso
    rw [run_cons, step_ver, Option.bind_some, run_cons, Option.bind_eq_some_iff] at k2
    obtain ⟨s2, m1, _⟩ := k2
    have hnd := i1.1
    rcases step_cases m1 with ⟨v', r', e, _⟩ | ⟨u', v', r', e, hw, rfl⟩ | ⟨u', v', r', e, hw, hh, hnc, rfl⟩
    ·cases e
    ·cases e
     simp only [List.cons.injEq] at hw
     obtain ⟨_, rfl⟩ := hw
     simp at hnd
    ·cases e
     exact hnc (i1.2 _ (by simp))
   ·cases e
    simp only [List.cons.injEq, true_and] at hw
    subst hw
    simp only at hnc
    rw [run_cons, step_ver, Option.bind_some, run_cons, step_pop, Option.bind_some] at k2
    have hvw : v ∉ x.st :: w' := fun hm => hnc (i1.2 v hm)
    obtain ⟨_, d, m1, m2, m3⟩ := run_less (z := v) (c := c1) k2 hvw (fun y => by simp [or_comm]) hnc
    refine ⟨d, ?_, fun y => ?_⟩
    ·rw [show q ++ x :: p = (q ++ [x]) ++ p by simp, run_append, g1, Option.bind_some, m1]
    ·have q1 := m2 y
     have q2 := h2 y
     by_cases e : y = v
     ·subst e
      refine ⟨fun h => absurd h m3, fun h => ?_⟩
      rcases List.mem_cons.1 h with h | h
      ·exact absurd h.symm hvx
      ·exact absurd h hvl
     ·rw [q2] at q1
      simp only [e, or_false] at q1
      rw [← q1]
      simp [e]
 -- gone round from a vertex's token
 obtain ⟨s, b, a, hsb⟩ : ∃ s a b, x :: l = a ++ .ver s :: b := by
  have := f2 x (by simp)
  simp only [List.mem_cons, reduceCtorEq, false_or, Tok.ver.injEq, hne] at this
  rcases this with h | h
  ·exact ⟨x.st, [], l, by rw [← h]; rfl⟩
  ·obtain ⟨a, b, rfl⟩ := List.append_of_mem h
   exact ⟨x.st, x :: a, b, rfl⟩
 have hg : Goes (.ver s :: a ++ b) := by
  have hr : ∃ p q, l = p ++ q ∧ q ++ x :: p = .ver s :: a ++ b := by
   cases b with
   | nil =>
    simp only [List.nil_append, List.cons.injEq] at hsb
    obtain ⟨rfl, rfl⟩ := hsb
    exact ⟨l, [], by simp, by simp⟩
   | cons y b =>
    simp only [List.cons_append, List.cons.injEq] at hsb
    obtain ⟨rfl, rfl⟩ := hsb
    exact ⟨b, .ver s :: a, rfl, by simp⟩
  obtain ⟨p, q, hl, e⟩ := hr
  obtain ⟨t0, ht0⟩ : ∃ t0, (q ++ x :: p).getLast? = some t0 := ⟨_, List.getLast?_eq_some_getLast (by simp)⟩
  obtain ⟨c, h1, h2⟩ := key p q hl t0 ht0
  rw [e] at h1
  have h1' := h1
  rw [List.cons_append, run_cons, Option.bind_eq_some_iff] at h1'
  obtain ⟨s', g1, _⟩ := h1'
  have e' : t0.st = s := by
   simp only [step] at g1
   split at g1
   ·assumption
   ·cases g1
  rw [e'] at h1
  refine ⟨s, a ++ b, c, rfl, h1, fun y hy => ?_⟩
  have := (h2 y).1 hy
  rw [hsb] at this
  simp only [List.mem_append, List.mem_cons] at this ⊢
  rcases this with h | h | h <;> simp [h]
 have hrot2 : Rot (.ver s :: a ++ b) (x :: l) := ⟨.ver s :: a, b, rfl, hsb⟩
 have hnx : (x :: l).Nodup := by
  simp only [List.nodup_cons, List.mem_cons, not_or] at hn ⊢
  exact ⟨hn.1.2.2.2, hn.2.2.2.2⟩
 exact (hg.toT (hrot2.nodup.2 hnx)).of_rot hrot2
theorem T.leaf {l : List Tok} (h : T l) : (∃ v, l = [.ver v]) ∨ ∃ x v r, Rot l (x :: .arc x.st v :: .ver v :: .arc v x.st :: r) := by
 induction h with
 | one v => exact .inl ⟨v, rfl⟩
 | add x l v h hne hv ih => exact .inr ⟨x, v, l, Rot.refl _⟩
 | rot a b h ih =>
  rcases ih with ⟨v, e⟩ | ⟨x, v, r, hr⟩
  ·have hr : Rot [.ver v] (b ++ a) := ⟨a, b, e.symm, rfl⟩
   exact .inl ⟨v, List.perm_singleton.1 hr.perm.symm⟩
  ·exact .inr ⟨x, v, r, Rot.trans ⟨b, a, rfl, rfl⟩ hr⟩
def vers : List Tok → List Int
 | [] => []
 | .ver v :: l => v :: vers l
 | .arc _ _ :: l => vers l
theorem mem_vers {v : Int} : ∀ {l : List Tok}, v ∈ vers l ↔ .ver v ∈ l
 | [] => by simp [vers]
 | .ver w :: l => by simp [vers, mem_vers (l := l)]
 | .arc _ _ :: l => by simp [vers, mem_vers (l := l)]
theorem vers_append (a b : List Tok) : vers (a ++ b) = vers a ++ vers b := by
 induction a with
 | nil => rfl
 | cons t a ih => cases t <;> simp [vers, ih]
theorem T.len {l : List Tok} (h : T l) : l.length + 2 = 3 * (vers l).length := by
 induction h with
 | one v => rfl
 | add x l v h hne hv ih =>
  cases x <;> simp [vers] at ih ⊢ <;> omega
 | rot a b h ih =>
  simp only [vers_append, List.length_append] at ih ⊢
  omega
end Go.Pev.Pl.Tok
end
section
namespace Go.Pev.Pl
section
variable {β : Type}
def keysM (es : List (Int × β)) : List Int := es.map Prod.fst
theorem keysM_len (es : List (Int × β)) : (keysM es).length = es.length := by simp [keysM]
theorem lookup_store (es : List (Int × β)) (k : Int) (v : β) (j : Int) : lookupM (storeM es k v) j = if j = k then some v else lookupM es j := by
 induction es with
 | nil =>
  simp only [storeM, lookupM]
  by_cases h : k = j
  ·simp [h]
  ·simp [h, Ne.symm h]
 | cons e es ih =>
  obtain ⟨a, b⟩ := e
  simp only [storeM]
  by_cases h : a = k
  ·subst h
   simp only [if_true, lookupM]
   by_cases h2 : a = j
   ·simp [h2]
   ·simp [h2, Ne.symm h2]
  ·simp only [h, if_false, lookupM, ih]
   by_cases h2 : a = j
   ·subst h2; simp [h]
   ·simp [h2]
theorem keys_store (es : List (Int × β)) (k : Int) (v : β) : keysM (storeM es k v) = if k ∈ keysM es then keysM es else keysM es ++ [k] := by
 induction es with
 | nil => rfl
 | cons e es ih =>
  obtain ⟨a, b⟩ := e
  simp only [storeM]
  by_cases h : a = k
  ·subst h; simp [keysM]
  ·simp only [h, if_false]
   show a :: keysM (storeM es k v) = _
   rw [ih]
   have : k ∈ keysM ((a, b) :: es) ↔ k ∈ keysM es := by simp [keysM, Ne.symm h]
   simp only [this]
   split <;> rfl
theorem lookup_none (es : List (Int × β)) (k : Int) : lookupM es k = none ↔ k ∉ keysM es := by
 induction es with
 | nil => simp [lookupM, keysM]
 | cons e es ih =>
  obtain ⟨a, b⟩ := e
  simp only [lookupM]
  by_cases h : a = k
  ·simp [h, keysM]
  ·simp only [h, if_false, ih]
   simp [keysM, Ne.symm h]
theorem mem_keys_store (es : List (Int × β)) (k : Int) (v : β) (j : Int) : j ∈ keysM (storeM es k v) ↔ j = k ∨ j ∈ keysM es := by
 rw [keys_store]
 split
 ·rename_i h
  constructor
  ·exact .inr
  ·rintro (rfl | h2)
   ·exact h
   ·exact h2
 ·simp [or_comm]
theorem nodup_keys_store {es : List (Int × β)} (h : (keysM es).Nodup) (k : Int) (v : β) : (keysM (storeM es k v)).Nodup := by
 rw [keys_store]
 split
 ·exact h
 ·rename_i hk
  rw [List.nodup_append]
  exact ⟨h, by simp, fun a ha b hb => by rintro rfl; simp at hb; exact hk (hb ▸ ha)⟩
end
def dd : List Int → List Int → List Int
 | ks, [] => ks
 | ks, x :: xs => dd (if x ∈ ks then ks else ks ++ [x]) xs
theorem dd_len : ∀ (xs ks : List Int), (dd ks xs).length ≤ ks.length + xs.length ∧ ((dd ks xs).length = ks.length + xs.length ↔ xs.Nodup ∧ ∀ x ∈ xs, x ∉ ks) := by
 intro xs
 induction xs with
 | nil => intro ks; simp [dd]
 | cons x xs ih =>
  intro ks
  rw [dd]
  by_cases h : x ∈ ks
  ·obtain ⟨h1, _⟩ := ih ks
   rw [if_pos h]
   refine ⟨by simp only [List.length_cons]; omega, ?_, fun hh => absurd h (hh.2 x (by simp))⟩
   intro e
   simp only [List.length_cons] at e
   omega
  ·obtain ⟨h1, h2⟩ := ih (ks ++ [x])
   rw [if_neg h]
   simp only [List.length_append, List.length_cons, List.length_nil, Nat.zero_add] at h1 h2 ⊢
   refine ⟨by omega, ?_⟩
   rw [show ks.length + (xs.length + 1) = ks.length + 1 + xs.length by omega, h2, List.nodup_cons]
   constructor
   ·rintro ⟨g1, g2⟩
    refine ⟨⟨fun hx => g2 x hx (by simp), g1⟩, fun y hy => ?_⟩
    rcases List.mem_cons.1 hy with rfl | hy
    ·exact h
    ·exact fun hk => g2 y hy (by simp [hk])
   ·rintro ⟨⟨g1, g2⟩, g3⟩
    refine ⟨g2, fun y hy hk => ?_⟩
    simp only [List.mem_append, List.mem_singleton] at hk
    rcases hk with hk | rfl
    ·exact g3 y (by simp [hy]) hk
    ·exact g1 hy
theorem dd_nodup (xs : List Int) : (dd [] xs).length = xs.length ↔ xs.Nodup := by
 have := (dd_len xs []).2
 simpa using this
theorem walk_fold {α β ρ : Type} (g : β → α → α) (fin : α → ρ) : ∀ (xs : List β) (a : α), walk (fun x a => .inl (g x a)) fin xs a = fin (xs.foldl (fun a x => g x a) a) := by
 intro xs
 induction xs with
 | nil => intro a; rfl
 | cons x xs ih => intro a; rw [walk, List.foldl_cons]; exact ih _
theorem findL {σ ρ β : Type} {step : σ → Option (σ ⊕ ρ)} (st : Nat → σ) (xs : List β) (P : β → Bool) (rt : Nat → ρ) (rf : ρ) (hs : xs.length < 9223372036854775808)
  (h : ∀ i x, i < xs.length → xs[i]? = some x → step (st i) = if P x then some (.inr (rt i)) else some (.inl (st (i + 1)))) (hN : step (st xs.length) = some (.inr rf)) :
  iterL step many (st 0) = some (if xs.any P then rt (xs.findIdx P) else rf) := by
 have key : ∀ (l : List β) (a : Nat), walk (fun x (a : Nat) => if P x then .inr (rt a) else .inl (a + 1)) (fun _ => rf) l a = if l.any P then rt (a + l.findIdx P) else rf := by
  intro l
  induction l with
  | nil => intro a; rfl
  | cons x l ih =>
   intro a
   rw [walk, List.any_cons, List.findIdx_cons]
   by_cases hx : P x = true
   ·simp [hx]
   ·simp only [hx, Bool.false_eq_true, if_false, Bool.false_or, cond_false]
    rw [ih, show a + 1 + List.findIdx P l = a + (List.findIdx P l + 1) by omega]
 have := walkL (step := step) (fun i (a : Nat) => st a) xs (fun x (a : Nat) => if P x then .inr (rt a) else .inl (a + 1)) (fun _ => rf) (fun i a => a = i) hs
  (fun i x a hi hx ha => by
   subst ha
   refine ⟨fun a' h' => ?_, fun r h' => ?_⟩
   ·rw [h a x hi hx]
    split at h'
    ·cases h'
    ·rename_i hp
     cases h'
     simp [hp]
   ·rw [h a x hi hx]
    split at h'
    ·rename_i hp
     cases h'
     simp [hp]
    ·cases h')
  (fun a ha => by subst ha; exact hN) 0 rfl
 rw [this, key, Nat.zero_add]
theorem idx_some {α : Type} {xs : List α} {n : Nat} {x : α} (h : xs[n]? = some x) : idx xs (n : Int) = some x := by rw [idx_get, h]
theorem dget_some {α : Type} {xs : List α} {n : Nat} {x z : α} (h : xs[n]? = some x) : dget xs (dnat (n : Int)) z = x := by
 rw [dget_l, List.getD_eq_getElem?_getD, h]; rfl
theorem subl_0 {α : Type} {xs : List α} {h : Nat} (h2 : h ≤ xs.length) : subl xs (0 : Int) (h : Int) = some (xs.take h) := by
 have := subl_l (xs := xs) (l := 0) (Nat.zero_le h) h2
 simpa using this
theorem subl_end {α : Type} {xs : List α} {l : Nat} (h1 : l ≤ xs.length) : subl xs (l : Int) (dlen xs) = some (xs.drop l) := by
 have := subl_l (xs := xs) h1 (Nat.le_refl _)
 rw [List.take_length] at this
 exact this
def pos (xs : List Int) (t : Int) : Int := if t ∈ xs then ((xs.findIdx (fun x => decide (x = t)) : Nat) : Int) else -1
theorem any_dec (xs : List Int) (t : Int) : (xs.any fun x => decide (x = t)) = decide (t ∈ xs) := by
 induction xs with
 | nil => rfl
 | cons x xs ih => simp only [List.any_cons, ih, List.mem_cons, Bool.decide_or]; congr 1; exact decide_eq_decide.2 eq_comm
theorem pos_in {xs : List Int} {t : Int} (h : t ∈ xs) : ∃ k : Nat, pos xs t = (k : Int) ∧ k < xs.length ∧ xs[k]? = some t ∧ xs = xs.take k ++ t :: xs.drop (k + 1) ∧ t ∉ xs.take k := by
 have hk : xs.findIdx (fun x => decide (x = t)) < xs.length := List.findIdx_lt_length.2 ⟨t, h, by simp⟩
 have hg : xs[xs.findIdx (fun x => decide (x = t))]'hk = t := by
  have := List.findIdx_getElem (xs := xs) (p := fun x => decide (x = t)) (w := hk)
  simpa using this
 refine ⟨_, by rw [pos, if_pos h], hk, by rw [List.getElem?_eq_getElem hk, hg], ?_, ?_⟩
 ·conv => lhs; rw [← List.take_append_drop (xs.findIdx (fun x => decide (x = t))) xs, List.drop_eq_getElem_cons hk, hg]
 ·intro hm
  obtain ⟨j, hj, e⟩ := List.mem_take_iff_getElem.1 hm
  have := List.not_of_lt_findIdx (p := fun x => decide (x = t)) (xs := xs) (i := j) (by omega)
  simp [e] at this
theorem pos_out {xs : List Int} {t : Int} (h : t ∉ xs) : pos xs t = -1 := by rw [pos, if_neg h]
end Go.Pev.Pl
end
