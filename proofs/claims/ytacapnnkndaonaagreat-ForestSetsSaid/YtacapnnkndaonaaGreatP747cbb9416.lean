/- A part of the proofs of this seat: G19M1 G19M2. -/
import Derived.Test.YtacapnnkndaonaaGreatPdcb24cf51e
set_option linter.unusedVariables false
set_option linter.unusedSimpArgs false
set_option linter.unusedSectionVars false
section
namespace Go.Pev
set_option maxRecDepth 100000
noncomputable section
attribute [local irreducible] fitsR fitsIR idxR sublR iltR ileR ieqR quoR remR shlR shrR cloneR iterO many IntKind.wrap dlen dset dget dapp dtake dcut drep dnat dclear imin imax lookupM storeM
-- archipelago/archipelagoref18.in
abbrev in18_i : Items := [(.tmp 0, .di), (.tmp 1, .di)]
abbrev in18_o : Items := [(.tmp 0, .dat .bool)]
abbrev in18_r : List RS := [.one]
def in18_d [Lk] : (Int × Int × Unit) → Option ((Bool × Unit)) := fun (a0, a1, _) =>
 match (ile 1 a0) with
 | true => match (ile a0 64) with
  | true => match (ile 0 a1) with
   | true => some ((ilt a1 a0), ())
   | false => some (false, ())
  | false => some (false, ())
 | false => some (false, ())
def in18 [Lk] := fun v => Lk.f (in18_d v)
theorem in18_eq v : in18 v = in18_d v := lock_eq _
-- archipelago/archipelagoref18.Token
abbrev token18_i : Items := [(.tmp 0, .di), (.tmp 1, .di)]
abbrev token18_o : Items := [(.tmp 0, .di), (.tmp 1, .di), (.tmp 2, .dat .bool), (.tmp 3, .dat .bool)]
abbrev token18_r : List RS := [.one, .one, .one, .one]
def token18_d [Lk] : (Int × Int × Unit) → Option ((Int × Int × Bool × Bool × Unit)) := fun (a0, a1, _) =>
 match in18 (a0, a1, ()) with
 | none => none
 | some (y0, _) => match y0 with
  | true => some (a1, 0, false, true, ())
  | false => match (ilt a0 1) with
   | true => some (0, 0, false, false, ())
   | false => match (ilt 64 a0) with
    | true => some (0, 0, false, false, ())
    | false => match (ilt a1 a0) with
     | true => some (0, 0, false, false, ())
     | false => match (ile (IntKind.wrap .i64 (a0 + (IntKind.wrap .i64 (a0 * a0)))) a1) with
      | true => some (0, 0, false, false, ())
      | false => match quo? .i64 (IntKind.wrap .i64 (a1 - a0)) a0 with
       | none => none
       | some x1 => match rem? (IntKind.wrap .i64 (a1 - a0)) a0 with
        | none => none
        | some x2 => match (ieq x1 x2) with
         | true => some (0, 0, false, false, ())
         | false => some (x1, x2, true, true, ())
def token18 [Lk] := fun v => Lk.f (token18_d v)
theorem token18_eq v : token18 v = token18_d v := lock_eq _
-- archipelago/archipelagoref18.Arc
abbrev arc18_i : Items := [(.tmp 0, .di), (.tmp 1, .di), (.tmp 2, .di)]
abbrev arc18_o : Items := [(.tmp 0, .di)]
abbrev arc18_r : List RS := [.one]
def arc18_d [Lk] : (Int × Int × Int × Unit) → Option ((Int × Unit)) := fun (a0, a1, a2, _) =>
 match in18 (a0, a1, ()) with
 | none => none
 | some (y0, _) => match (!y0) with
  | true => some ((-1 : Int), ())
  | false => match in18 (a0, a2, ()) with
   | none => none
   | some (y1, _) => match (!y1) with
    | true => some ((-1 : Int), ())
    | false => match (ieq a1 a2) with
     | true => some ((-1 : Int), ())
     | false => some ((IntKind.wrap .i64 ((IntKind.wrap .i64 (a0 + (IntKind.wrap .i64 (a1 * a0)))) + a2)), ())
def arc18 [Lk] := fun v => Lk.f (arc18_d v)
theorem arc18_eq v : arc18 v = arc18_d v := lock_eq _
-- archipelago/archipelagoref18.Great
abbrev great18_i : Items := [(.tmp 0, .dat (.prod (.int .i64) (.prod (.slice (.slice (.int .i64))) .unit))), (.tmp 1, .di)]
abbrev great18_o : Items := [(.tmp 0, .dat .bool)]
abbrev great18_r : List RS := [.one]
abbrev great18_i0 : Items := [(.tmp 1, .di), (.tmp 2, .box 2), (.cell 0 0, .di), (.cell 0 1, .dat (.slice (.slice (.int .i64)))), (.tmp 5, .di), (.tmp 6, .di)]
abbrev great18_o0 : Outs := [(.exit 0, [(.tmp 1, .di), (.tmp 5, .di)])]
def great18_s0 [Lk] : (Int × Int × List (List Int) × Int × Int × Unit) → Option ((Int × Int × List (List Int) × Int × Int × Unit) ⊕ (Int × Int × Unit) ⊕ Unit) := fun (a0, a1, a2, a3, a4, _) =>
 match (ilt a4 (dlen a2)) with
 | true => match (ile a3 a0) with
  | true => match idx a2 a4 with
   | none => none
   | some x0 => some (.inl (a0, a1, a2, (IntKind.wrap .i64 (a3 + (dlen x0))), (IntKind.wrap .i64 (a4 + 1)), ()))
  | false => some (.inr (.inl (a0, a3, ())))
 | false => some (.inr (.inl (a0, a3, ())))
def great18_d [Lk] : ((Int × (List (List Int)) × Unit) × Int × Unit) → Option ((Bool × Unit)) := fun (a0, a1, _) =>
 match iterL great18_s0 many (a1, a0.1, a0.2.1, (dlen a0.2.1), 0, ()) with
 | none => none
 | some r => match r with
  | .inl (o0, o1, _) => some ((ilt o0 o1), ())
  | .inr _ => none
def great18 [Lk] := fun v => Lk.f (great18_d v)
theorem great18_eq v : great18 v = great18_d v := lock_eq _
-- archipelago/archipelagoref18.stands
abbrev stands18_i : Items := [(.tmp 0, .di), (.tmp 1, .di), (.tmp 2, .di)]
abbrev stands18_o : Items := [(.tmp 0, .dat .bool)]
abbrev stands18_r : List RS := [.one]
def stands18_d [Lk] : (Int × Int × Int × Unit) → Option ((Bool × Unit)) := fun (a0, a1, a2, _) =>
 match token18 (a0, a1, ()) with
 | none => none
 | some (y0, y1, y2, y3, _) => match y3 with
  | true => match (!y2) with
   | true => match (ieq y0 a2) with
    | true => some (true, ())
    | false => match y2 with
     | true => some ((ieq y1 a2), ())
     | false => some (false, ())
   | false => match y2 with
    | true => some ((ieq y1 a2), ())
    | false => some (false, ())
  | false => some (false, ())
def stands18 [Lk] := fun v => Lk.f (stands18_d v)
theorem stands18_eq v : stands18 v = stands18_d v := lock_eq _
-- archipelago/archipelagoref18.tree
abbrev tree18_i : Items := [(.tmp 0, .di), (.tmp 1, .dat (.slice (.int .i64)))]
abbrev tree18_o : Items := [(.tmp 0, .dat .bool)]
abbrev tree18_r : List RS := [.one]
abbrev tree18_i2 : Items := [(.tmp 0, .di), (.tmp 1, .own 3 (.int .i64)), (.tmp 6, .di), (.tmp 14, .own 3 (.int .i64)), (.tmp 15, .di), (.tmp 27, .dat .bool), (.tmp 28, .dat .bool), (.tmp 64, .dat .bool), (.tmp 67, .dat .bool), (.tmp 70, .di), (.tmp 71, .di), (.tmp 72, .dat .bool), (.tmp 75, .di), (.tmp 76, .di), (.tmp 77, .di), (.tmp 78, .di), (.tmp 79, .di), (.tmp 80, .dat .bool), (.tmp 83, .di), (.tmp 84, .own' 0), (.tmp 85, .di), (.tmp 86, .own' 0), (.tmp 87, .di), (.tmp 88, .di), (.tmp 89, .di), (.tmp 90, .own' 0), (.tmp 91, .di), (.tmp 92, .di), (.tmp 94, .di), (.tmp 95, .di), (.tmp 96, .dat .bool)]
abbrev tree18_o2 : Outs := [(.exit 4, [(.tmp 0, .di), (.tmp 6, .di), (.tmp 14, .own 3 (.int .i64)), (.tmp 27, .dat .bool), (.tmp 28, .dat .bool), (.tmp 64, .dat .bool), (.tmp 67, .dat .bool), (.tmp 70, .di), (.tmp 71, .di), (.tmp 72, .dat .bool), (.tmp 75, .di), (.tmp 76, .di), (.tmp 77, .di), (.tmp 78, .di), (.tmp 79, .di), (.tmp 80, .dat .bool), (.tmp 83, .di), (.tmp 84, .own 3 (.int .i64)), (.tmp 85, .di), (.tmp 86, .own' 1), (.tmp 87, .di), (.tmp 88, .di), (.tmp 89, .di), (.tmp 90, .own' 1), (.tmp 91, .di), (.tmp 92, .di), (.tmp 94, .di), (.tmp 95, .di), (.tmp 96, .dat .bool)])]
def tree18_s2 [Lk] : (Int × List Int × Int × List Int × Int × Bool × Bool × Bool × Bool × Int × Int × Bool × Int × Int × Int × Int × Int × Bool × Int × Int × Int × Int × Int × Int × Int × Int × Int × Bool × Unit) → Option ((Int × List Int × Int × List Int × Int × Bool × Bool × Bool × Bool × Int × Int × Bool × Int × Int × Int × Int × Int × Bool × Int × Int × Int × Int × Int × Int × Int × Int × Int × Bool × Unit) ⊕ (Int × Int × List Int × Bool × Bool × Bool × Bool × Int × Int × Bool × Int × Int × Int × Int × Int × Bool × Int × List Int × Int × Int × Int × Int × Int × Int × Int × Int × Bool × Unit) ⊕ Unit) := fun (a0, a1, a2, a3, a4, a5, a6, a7, a8, a9, a10, a11, a12, a13, a14, a15, a16, a17, a18, a19, a20, a21, a22, a23, a24, a25, a26, a27, _) =>
 match (ilt a4 (dlen a1)) with
 | true => match rem? (IntKind.wrap .i64 (a2 + a4)) (dlen a1) with
  | none => none
  | some x0 => match idx a1 x0 with
   | none => none
   | some x1 => match (fits ((dlen a3) + (dlen ([(dget a1 (dnat x0) 0)] : List (Int))))) with
    | true => some (.inl (a0, a1, a2, (dapp a3 ([(dget a1 (dnat x0) 0)] : List (Int))), (IntKind.wrap .i64 (a4 + 1)), a5, a6, a7, a8, a9, a10, a11, a12, a13, a14, a15, a16, a17, a18, a19, a20, a21, a22, a23, a24, a25, a26, a27, ()))
    | false => none
 | false => some (.inr (.inl (a0, a2, a3, a5, a6, a7, a8, a9, a10, a11, a12, a13, a14, a15, a16, a17, a18, a1, a19, a20, a21, a22, a23, a24, a25, a26, a27, ())))
abbrev tree18_i1 : Items := [(.tmp 0, .di), (.tmp 1, .own 3 (.int .i64)), (.tmp 5, .dat .bool), (.tmp 6, .di)]
abbrev tree18_o1 : Outs := [(.exit 2, [(.tmp 0, .di), (.tmp 1, .own 3 (.int .i64)), (.tmp 5, .dat .bool)])]
def tree18_s1 [Lk] : (Int × List Int × Bool × Int × Unit) → Option ((Int × List Int × Bool × Int × Unit) ⊕ (Int × List Int × Bool × Unit) ⊕ Unit) := fun (a0, a1, a2, a3, _) =>
 match (ilt a3 (dlen a1)) with
 | true => match (!a2) with
  | true => match idx a1 a3 with
   | none => none
   | some x0 => match rem? (IntKind.wrap .i64 (a3 + 1)) (dlen a1) with
    | none => none
    | some x1 => match idx a1 x1 with
     | none => none
     | some x2 => match rem? (IntKind.wrap .i64 (a3 + 2)) (dlen a1) with
      | none => none
      | some x3 => match idx a1 x3 with
       | none => none
       | some x4 => match token18 (a0, (dget a1 (dnat a3) 0), ()) with
        | none => none
        | some (y5, y6, y7, y8, _) => match (ile 4 (dlen a1)) with
         | true => match y8 with
          | true => match y7 with
           | true => match (ieq (dget a1 (dnat x1) 0) y6) with
            | true => match arc18 (a0, y6, y5, ()) with
             | none => none
             | some (y9, _) => match (ieq (dget a1 (dnat x3) 0) y9) with
              | true => match rem? (IntKind.wrap .i64 ((IntKind.wrap .i64 (a3 + (dlen a1))) - 1)) (dlen a1) with
               | none => none
               | some x10 => match idx a1 x10 with
                | none => none
                | some x11 => match stands18 (a0, (dget a1 (dnat x10) 0), y5, ()) with
                 | none => none
                 | some (y12, _) => match y12 with
                  | true => match iterL tree18_s2 many (a0, a1, a3, ([] : List (Int)), 3, a2, (!a2), y8, y7, (dget a1 (dnat x1) 0), y6, (ieq (dget a1 (dnat x1) 0) y6), (dget a1 (dnat x3) 0), a0, y6, y5, y9, (ieq (dget a1 (dnat x3) 0) y9), a0, a3, (dlen a1), (IntKind.wrap .i64 (a3 + (dlen a1))), (IntKind.wrap .i64 ((IntKind.wrap .i64 (a3 + (dlen a1))) - 1)), (dlen a1), x10, (dget a1 (dnat x10) 0), y5, y12, ()) with
                   | none => none
                   | some r => match r with
                    | .inl (o13, o14, o15, o16, o17, o18, o19, o20, o21, o22, o23, o24, o25, o26, o27, o28, o29, o30, o31, o32, o33, o34, o35, o36, o37, o38, o39, _) => some (.inl (o13, o15, true, (IntKind.wrap .i64 (o14 + 1)), ()))
                    | .inr _ => none
                  | false => some (.inl (a0, a1, a2, (IntKind.wrap .i64 (a3 + 1)), ()))
              | false => some (.inl (a0, a1, a2, (IntKind.wrap .i64 (a3 + 1)), ()))
            | false => some (.inl (a0, a1, a2, (IntKind.wrap .i64 (a3 + 1)), ()))
           | false => some (.inl (a0, a1, a2, (IntKind.wrap .i64 (a3 + 1)), ()))
          | false => some (.inl (a0, a1, a2, (IntKind.wrap .i64 (a3 + 1)), ()))
         | false => some (.inl (a0, a1, a2, (IntKind.wrap .i64 (a3 + 1)), ()))
  | false => some (.inr (.inl (a0, a1, a2, ())))
 | false => some (.inr (.inl (a0, a1, a2, ())))
abbrev tree18_i0 : Items := [(.tmp 0, .di), (.tmp 1, .own 3 (.int .i64))]
abbrev tree18_o0 : Outs := [(.ret, [(.tmp 4, .dat .bool)]), (.exit 0, [(.tmp 0, .di), (.tmp 1, .own 3 (.int .i64))])]
def tree18_s0 [Lk] : (Int × List Int × Unit) → Option ((Int × List Int × Unit) ⊕ (Bool × Unit) ⊕ (Int × List Int × Unit) ⊕ Unit) := fun (a0, a1, _) =>
 match (ilt 1 (dlen a1)) with
 | true => match iterL tree18_s1 many (a0, a1, false, 0, ()) with
  | none => none
  | some r => match r with
   | .inl (o0, o1, o2, _) => match (!o2) with
    | true => some (.inr (.inl (false, ())))
    | false => some (.inl (o0, o1, ()))
   | .inr _ => none
 | false => some (.inr (.inr (.inl (a0, a1, ()))))
def tree18_d [Lk] : (Int × List Int × Unit) → Option ((Bool × Unit)) := fun (a0, a1, _) =>
 match (fits ((dlen ([] : List (Int))) + (dlen a1))) with
 | true => match iterL tree18_s0 many (a0, (dapp ([] : List (Int)) a1), ()) with
  | none => none
  | some r => match r with
   | .inl (o0, _) => some (o0, ())
   | .inr r => match r with
    | .inl (o1, o2, _) => match (ieq (dlen o2) 1) with
     | true => match idx o2 0 with
      | none => none
      | some x3 => match in18 (o1, (dget o2 0 0), ()) with
       | none => none
       | some (y4, _) => some (y4, ())
     | false => some (false, ())
    | .inr _ => none
 | false => none
def tree18 [Lk] := fun v => Lk.f (tree18_d v)
theorem tree18_eq v : tree18 v = tree18_d v := lock_eq _
-- archipelago/archipelagoref13.Place
abbrev place13_i : Items := [(.tmp 0, .dat (.slice (.int .i64))), (.tmp 1, .di)]
abbrev place13_o : Items := [(.tmp 0, .di)]
abbrev place13_r : List RS := [.one]
abbrev place13_i0 : Items := [(.tmp 0, .dat (.slice (.int .i64))), (.tmp 1, .di), (.tmp 5, .di)]
abbrev place13_o0 : Outs := [(.ret, [(.tmp 4, .di)]), (.exit 0, [])]
def place13_s0 [Lk] : (List Int × Int × Int × Unit) → Option ((List Int × Int × Int × Unit) ⊕ (Int × Unit) ⊕ (Unit) ⊕ Unit) := fun (a0, a1, a2, _) =>
 match (ilt a2 (dlen a0)) with
 | true => match idx a0 a2 with
  | none => none
  | some x0 => match (ieq x0 a1) with
   | true => some (.inr (.inl (a2, ())))
   | false => some (.inl (a0, a1, (IntKind.wrap .i64 (a2 + 1)), ()))
 | false => some (.inr (.inr (.inl ())))
def place13_d [Lk] : (List Int × Int × Unit) → Option ((Int × Unit)) := fun (a0, a1, _) =>
 match iterL place13_s0 many (a0, a1, 0, ()) with
 | none => none
 | some r => match r with
  | .inl (o0, _) => some (o0, ())
  | .inr r => match r with
   | .inl _ => some ((-1 : Int), ())
   | .inr _ => none
def place13 [Lk] := fun v => Lk.f (place13_d v)
theorem place13_eq v : place13 v = place13_d v := lock_eq _
-- archipelago/archipelagoref13.Right
abbrev right13_i : Items := [(.tmp 0, .dat (.slice (.int .i64)))]
abbrev right13_o : Items := [(.tmp 0, .dat .bool)]
abbrev right13_r : List RS := [.one]
abbrev right13_i0 : Items := [(.tmp 0, .dat (.slice (.int .i64))), (.tmp 3, .di)]
abbrev right13_o0 : Outs := [(.ret, [(.tmp 2, .dat .bool)]), (.exit 0, [])]
def right13_s0 [Lk] : (List Int × Int × Unit) → Option ((List Int × Int × Unit) ⊕ (Bool × Unit) ⊕ (Unit) ⊕ Unit) := fun (a0, a1, _) =>
 match (ilt a1 (dlen a0)) with
 | true => match idx a0 a1 with
  | none => none
  | some x0 => match (ilt x0 0) with
   | true => some (.inr (.inl (false, ())))
   | false => match idx a0 a1 with
    | none => none
    | some x1 => match (ilt 10000 x1) with
     | true => some (.inr (.inl (false, ())))
     | false => match subl a0 0 a1 with
      | none => none
      | some x2 => match idx a0 a1 with
       | none => none
       | some x3 => match place13 (x2, x3, ()) with
        | none => none
        | some (y4, _) => match (ile 0 y4) with
         | true => some (.inr (.inl (false, ())))
         | false => some (.inl (a0, (IntKind.wrap .i64 (a1 + 1)), ()))
 | false => some (.inr (.inr (.inl ())))
def right13_d [Lk] : (List Int × Unit) → Option ((Bool × Unit)) := fun (a0, _) =>
 match (ilt 1000 (dlen a0)) with
 | true => some (false, ())
 | false => match iterL right13_s0 many (a0, 0, ()) with
  | none => none
  | some r => match r with
   | .inl (o0, _) => some (o0, ())
   | .inr r => match r with
    | .inl _ => some (true, ())
    | .inr _ => none
def right13 [Lk] := fun v => Lk.f (right13_d v)
theorem right13_eq v : right13 v = right13_d v := lock_eq _
-- archipelago/archipelagoref13.From
abbrev from13_i : Items := [(.tmp 0, .dat (.slice (.int .i64))), (.tmp 1, .di)]
abbrev from13_o : Items := [(.tmp 0, .own 3 (.int .i64)), (.tmp 1, .dat .bool)]
abbrev from13_r : List RS := [.one, .one]
def from13_d [Lk] : (List Int × Int × Unit) → Option ((List Int × Bool × Unit)) := fun (a0, a1, _) =>
 match place13 (a0, a1, ()) with
 | none => none
 | some (y0, _) => match right13 (a0, ()) with
  | none => none
  | some (y1, _) => match (!y1) with
   | true => some (([] : List (Int)), false, ())
   | false => match (ilt y0 0) with
    | true => some (([] : List (Int)), false, ())
    | false => match subl a0 y0 (dlen a0) with
     | none => none
     | some x2 => match (fits ((dlen ([] : List (Int))) + (dlen x2))) with
      | true => match subl a0 0 y0 with
       | none => none
       | some x3 => match (fits ((dlen (dapp ([] : List (Int)) x2)) + (dlen x3))) with
        | true => some ((dapp (dapp ([] : List (Int)) x2) x3), true, ())
        | false => none
      | false => none
def from13 [Lk] := fun v => Lk.f (from13_d v)
theorem from13_eq v : from13 v = from13_d v := lock_eq _
-- archipelago/archipelagoref13.Plain
abbrev plain13_i : Items := [(.tmp 0, .dat (.slice (.int .i64)))]
abbrev plain13_o : Items := [(.tmp 0, .own 3 (.int .i64))]
abbrev plain13_r : List RS := [.one]
abbrev plain13_i0 : Items := [(.tmp 0, .dat (.slice (.int .i64))), (.tmp 3, .di), (.tmp 4, .di)]
abbrev plain13_o0 : Outs := [(.exit 0, [(.tmp 0, .dat (.slice (.int .i64))), (.tmp 3, .di)])]
def plain13_s0 [Lk] : (List Int × Int × Int × Unit) → Option ((List Int × Int × Int × Unit) ⊕ (List Int × Int × Unit) ⊕ Unit) := fun (a0, a1, a2, _) =>
 match (ilt a2 (dlen a0)) with
 | true => match idx a0 a2 with
  | none => none
  | some x0 => some (.inl (a0, (imin a1 x0), (IntKind.wrap .i64 (a2 + 1)), ()))
 | false => some (.inr (.inl (a0, a1, ())))
def plain13_d [Lk] : (List Int × Unit) → Option ((List Int × Unit)) := fun (a0, _) =>
 match right13 (a0, ()) with
 | none => none
 | some (y0, _) => match (!y0) with
  | true => some (([] : List (Int)), ())
  | false => match (ieq (dlen a0) 0) with
   | true => some (([] : List (Int)), ())
   | false => match idx a0 0 with
    | none => none
    | some x1 => match iterL plain13_s0 many (a0, x1, 0, ()) with
     | none => none
     | some r => match r with
      | .inl (o2, o3, _) => match from13 (o2, o3, ()) with
       | none => none
       | some (y4, y5, _) => some (y4, ())
      | .inr _ => none
def plain13 [Lk] := fun v => Lk.f (plain13_d v)
theorem plain13_eq v : plain13 v = plain13_d v := lock_eq _
-- archipelago/archipelagoref01.Ints
abbrev ints01_i : Items := [(.tmp 0, .dat (.slice (.int .i64))), (.tmp 1, .dat (.slice (.int .i64)))]
abbrev ints01_o : Items := [(.tmp 0, .dat .bool)]
abbrev ints01_r : List RS := [.one]
abbrev ints01_i0 : Items := [(.tmp 0, .dat (.slice (.int .i64))), (.tmp 1, .dat (.slice (.int .i64))), (.tmp 5, .di)]
abbrev ints01_o0 : Outs := [(.ret, [(.tmp 4, .dat .bool)]), (.exit 0, [])]
def ints01_s0 [Lk] : (List Int × List Int × Int × Unit) → Option ((List Int × List Int × Int × Unit) ⊕ (Bool × Unit) ⊕ (Unit) ⊕ Unit) := fun (a0, a1, a2, _) =>
 match (ilt a2 (dlen a0)) with
 | true => match idx a0 a2 with
  | none => none
  | some x0 => match idx a1 a2 with
   | none => none
   | some x1 => match (!(ieq x0 x1)) with
    | true => some (.inr (.inl (false, ())))
    | false => some (.inl (a0, a1, (IntKind.wrap .i64 (a2 + 1)), ()))
 | false => some (.inr (.inr (.inl ())))
def ints01_d [Lk] : (List Int × List Int × Unit) → Option ((Bool × Unit)) := fun (a0, a1, _) =>
 match (!(ieq (dlen a0) (dlen a1))) with
 | true => some (false, ())
 | false => match iterL ints01_s0 many (a0, a1, 0, ()) with
  | none => none
  | some r => match r with
   | .inl (o0, _) => some (o0, ())
   | .inr r => match r with
    | .inl _ => some (true, ())
    | .inr _ => none
def ints01 [Lk] := fun v => Lk.f (ints01_d v)
theorem ints01_eq v : ints01 v = ints01_d v := lock_eq _
-- archipelago/archipelagoref14.Lists
abbrev lists14_i : Items := [(.tmp 0, .dat (.slice (.slice (.int .i64)))), (.tmp 1, .dat (.slice (.slice (.int .i64))))]
abbrev lists14_o : Items := [(.tmp 0, .dat .bool)]
abbrev lists14_r : List RS := [.one]
abbrev lists14_i0 : Items := [(.tmp 0, .dat (.slice (.slice (.int .i64)))), (.tmp 1, .dat (.slice (.slice (.int .i64)))), (.tmp 5, .di)]
abbrev lists14_o0 : Outs := [(.ret, [(.tmp 4, .dat .bool)]), (.exit 0, [])]
def lists14_s0 [Lk] : (List (List Int) × List (List Int) × Int × Unit) → Option ((List (List Int) × List (List Int) × Int × Unit) ⊕ (Bool × Unit) ⊕ (Unit) ⊕ Unit) := fun (a0, a1, a2, _) =>
 match (ilt a2 (dlen a0)) with
 | true => match idx a0 a2 with
  | none => none
  | some x0 => match idx a1 a2 with
   | none => none
   | some x1 => match ints01 (x0, x1, ()) with
    | none => none
    | some (y2, _) => match (!y2) with
     | true => some (.inr (.inl (false, ())))
     | false => some (.inl (a0, a1, (IntKind.wrap .i64 (a2 + 1)), ()))
 | false => some (.inr (.inr (.inl ())))
def lists14_d [Lk] : (List (List Int) × List (List Int) × Unit) → Option ((Bool × Unit)) := fun (a0, a1, _) =>
 match (!(ieq (dlen a0) (dlen a1))) with
 | true => some (false, ())
 | false => match iterL lists14_s0 many (a0, a1, 0, ()) with
  | none => none
  | some r => match r with
   | .inl (o0, _) => some (o0, ())
   | .inr r => match r with
    | .inl _ => some (true, ())
    | .inr _ => none
def lists14 [Lk] := fun v => Lk.f (lists14_d v)
theorem lists14_eq v : lists14 v = lists14_d v := lock_eq _
-- archipelago/archipelagoref18.Right
abbrev right18_i : Items := [(.tmp 0, .dat (.prod (.int .i64) (.prod (.slice (.slice (.int .i64))) .unit)))]
abbrev right18_o : Items := [(.tmp 0, .dat .bool)]
abbrev right18_r : List RS := [.one]
abbrev right18_i1 : Items := [(.tmp 1, .box 2), (.cell 0 0, .di), (.cell 0 1, .dat (.slice (.slice (.int .i64)))), (.tmp 3, .own 4 .bool), (.tmp 4, .di), (.tmp 5, .di), (.tmp 6, .di), (.tmp 7, .dat (.slice (.int .i64))), (.tmp 8, .di), (.tmp 44, .dat (.slice (.int .i64))), (.tmp 45, .di), (.tmp 46, .dat .bool), (.tmp 49, .ptr' 0 0), (.tmp 50, .di), (.tmp 51, .dat (.slice (.int .i64))), (.tmp 52, .dat .bool), (.tmp 53, .dat .bool), (.tmp 56, .dat (.slice (.int .i64))), (.tmp 57, .dat (.slice (.int .i64))), (.tmp 58, .own 32 (.slice (.int .i64))), (.tmp 59, .dat (.slice (.int .i64))), (.tmp 60, .own 32 (.slice (.int .i64))), (.tmp 61, .dat .bool), (.tmp 62, .dat .bool), (.tmp 65, .dat (.slice (.int .i64))), (.tmp 67, .di), (.tmp 68, .di), (.tmp 69, .dat .bool)]
abbrev right18_o1 : Outs := [(.ret, [(.tmp 2, .dat .bool)]), (.exit 2, [(.tmp 1, .box 2), (.cell 0 0, .di), (.cell 0 1, .dat (.slice (.slice (.int .i64)))), (.tmp 3, .own 4 .bool), (.tmp 4, .di), (.tmp 5, .di), (.tmp 6, .di), (.tmp 44, .dat (.slice (.int .i64))), (.tmp 45, .di), (.tmp 46, .dat .bool), (.tmp 49, .ptr' 0 0), (.tmp 50, .di), (.tmp 51, .dat (.slice (.int .i64))), (.tmp 52, .dat .bool), (.tmp 53, .dat .bool), (.tmp 56, .dat (.slice (.int .i64))), (.tmp 57, .dat (.slice (.int .i64))), (.tmp 58, .own 32 (.slice (.int .i64))), (.tmp 59, .dat (.slice (.int .i64))), (.tmp 60, .own 32 (.slice (.int .i64))), (.tmp 61, .dat .bool), (.tmp 62, .dat .bool), (.tmp 65, .dat (.slice (.int .i64))), (.tmp 67, .di), (.tmp 68, .di), (.tmp 69, .dat .bool)])]
def right18_s1 [Lk] : (Int × List (List Int) × List Bool × Int × Int × Int × List Int × Int × List Int × Int × Bool × Int × List Int × Bool × Bool × List Int × List Int × List (List Int) × List Int × List (List Int) × Bool × Bool × List Int × Int × Int × Bool × Unit) → Option ((Int × List (List Int) × List Bool × Int × Int × Int × List Int × Int × List Int × Int × Bool × Int × List Int × Bool × Bool × List Int × List Int × List (List Int) × List Int × List (List Int) × Bool × Bool × List Int × Int × Int × Bool × Unit) ⊕ (Bool × Unit) ⊕ (Int × List (List Int) × List Bool × Int × Int × Int × List Int × Int × Bool × Int × List Int × Bool × Bool × List Int × List Int × List (List Int) × List Int × List (List Int) × Bool × Bool × List Int × Int × Int × Bool × Unit) ⊕ Unit) := fun (a0, a1, a2, a3, a4, a5, a6, a7, a8, a9, a10, a11, a12, a13, a14, a15, a16, a17, a18, a19, a20, a21, a22, a23, a24, a25, _) =>
 match (ilt a7 (dlen a6)) with
 | true => match idx a6 a7 with
  | none => none
  | some x0 => match (ilt x0 a0) with
   | true => match idx a6 a7 with
    | none => none
    | some x1 => match idx a2 x1 with
     | none => none
     | some x2 => match (dget a2 (dnat x1) false) with
      | true => some (.inr (.inl (false, ())))
      | false => match idx a6 a7 with
       | none => none
       | some x3 => match idx a2 x3 with
        | none => none
        | some x4 => some (.inl (a0, a1, (dset a2 (dnat x3) true), a3, (IntKind.wrap .i64 (a4 + 1)), a5, a6, (IntKind.wrap .i64 (a7 + 1)), a8, a9, a10, a11, a12, a13, a14, a15, a16, a17, a18, a19, a20, a21, a22, a23, a24, a25, ()))
   | false => some (.inl (a0, a1, a2, a3, a4, a5, a6, (IntKind.wrap .i64 (a7 + 1)), a8, a9, a10, a11, a12, a13, a14, a15, a16, a17, a18, a19, a20, a21, a22, a23, a24, a25, ()))
 | false => some (.inr (.inr (.inl (a0, a1, a2, a3, a4, a5, a8, a9, a10, a11, a12, a13, a14, a15, a16, a17, a18, a19, a20, a21, a22, a23, a24, a25, ()))))
abbrev right18_i0 : Items := [(.tmp 1, .box 2), (.cell 0 0, .di), (.cell 0 1, .dat (.slice (.slice (.int .i64)))), (.tmp 3, .own 4 .bool), (.tmp 4, .di), (.tmp 5, .di), (.tmp 6, .di)]
abbrev right18_o0 : Outs := [(.ret, [(.tmp 2, .dat .bool)]), (.exit 0, [(.tmp 1, .box 2), (.cell 0 0, .di), (.cell 0 1, .dat (.slice (.slice (.int .i64)))), (.tmp 5, .di)])]
def right18_s0 [Lk] : (Int × List (List Int) × List Bool × Int × Int × Int × Unit) → Option ((Int × List (List Int) × List Bool × Int × Int × Int × Unit) ⊕ (Bool × Unit) ⊕ (Int × List (List Int) × Int × Unit) ⊕ Unit) := fun (a0, a1, a2, a3, a4, a5, _) =>
 match (ilt a5 (dlen a1)) with
 | true => match idx a1 a5 with
  | none => none
  | some x0 => match right13 (x0, ()) with
   | none => none
   | some (y1, _) => match (!y1) with
    | true => some (.inr (.inl (false, ())))
    | false => match (ieq (dlen x0) 0) with
     | true => some (.inr (.inl (false, ())))
     | false => match tree18 (a0, x0, ()) with
      | none => none
      | some (y2, _) => match (!y2) with
       | true => some (.inr (.inl (false, ())))
       | false => match plain13 (x0, ()) with
        | none => none
        | some (y3, _) => match lists14 (([y3] : List (List Int)), ([x0] : List (List Int)), ()) with
         | none => none
         | some (y4, _) => match (!y4) with
          | true => some (.inr (.inl (false, ())))
          | false => match idx x0 0 with
           | none => none
           | some x5 => match (ile x5 a3) with
            | true => some (.inr (.inl (false, ())))
            | false => match idx x0 0 with
             | none => none
             | some x6 => match iterL right18_s1 many (a0, a1, a2, x6, a4, a5, x0, 0, x0, (dlen x0), (ieq (dlen x0) 0), a0, x0, y2, (!y2), x0, y3, ([y3] : List (List Int)), x0, ([x0] : List (List Int)), y4, (!y4), x0, x5, a3, (ile x5 a3), ()) with
              | none => none
              | some r => match r with
               | .inl (o7, _) => some (.inr (.inl (o7, ())))
               | .inr r => match r with
                | .inl (o8, o9, o10, o11, o12, o13, o14, o15, o16, o17, o18, o19, o20, o21, o22, o23, o24, o25, o26, o27, o28, o29, o30, o31, _) => some (.inl (o8, o9, o10, o11, o12, (IntKind.wrap .i64 (o13 + 1)), ()))
                | .inr _ => none
 | false => some (.inr (.inr (.inl (a0, a1, a4, ()))))
def right18_d [Lk] : ((Int × (List (List Int)) × Unit) × Unit) → Option ((Bool × Unit)) := fun (a0, _) =>
 match (ilt a0.1 1) with
 | true => some (false, ())
 | false => match (ilt 64 a0.1) with
  | true => some (false, ())
  | false => match (ilt a0.1 (dlen a0.2.1)) with
   | true => some (false, ())
   | false => match (fitsI a0.1 && fitsI a0.1 && ile a0.1 a0.1 && true) with
    | true => match iterL right18_s0 many (a0.1, a0.2.1, (drep (dnat a0.1) false), (-1 : Int), (0 : Int), (0 : Int), ()) with
     | none => none
     | some r => match r with
      | .inl (o0, _) => some (o0, ())
      | .inr r => match r with
       | .inl (o1, o2, o3, _) => some ((ieq o3 o1), ())
       | .inr _ => none
    | false => none
def right18 [Lk] := fun v => Lk.f (right18_d v)
theorem right18_eq v : right18 v = right18_d v := lock_eq _
-- archipelago/archipelagoref18.place
abbrev place18_i : Items := [(.tmp 0, .dat (.prod (.int .i64) (.prod (.slice (.slice (.int .i64))) .unit))), (.tmp 1, .di)]
abbrev place18_o : Items := [(.tmp 0, .di)]
abbrev place18_r : List RS := [.one]
abbrev place18_i0 : Items := [(.tmp 1, .di), (.tmp 2, .box 2), (.cell 0 0, .di), (.cell 0 1, .dat (.slice (.slice (.int .i64)))), (.tmp 5, .di)]
abbrev place18_o0 : Outs := [(.ret, [(.tmp 4, .di)]), (.exit 0, [])]
def place18_s0 [Lk] : (Int × Int × List (List Int) × Int × Unit) → Option ((Int × Int × List (List Int) × Int × Unit) ⊕ (Int × Unit) ⊕ (Unit) ⊕ Unit) := fun (a0, a1, a2, a3, _) =>
 match (ilt a3 (dlen a2)) with
 | true => match idx a2 a3 with
  | none => none
  | some x0 => match place13 (x0, a0, ()) with
   | none => none
   | some (y1, _) => match (ile 0 y1) with
    | true => some (.inr (.inl (a3, ())))
    | false => some (.inl (a0, a1, a2, (IntKind.wrap .i64 (a3 + 1)), ()))
 | false => some (.inr (.inr (.inl ())))
def place18_d [Lk] : ((Int × (List (List Int)) × Unit) × Int × Unit) → Option ((Int × Unit)) := fun (a0, a1, _) =>
 match iterL place18_s0 many (a1, a0.1, a0.2.1, 0, ()) with
 | none => none
 | some r => match r with
  | .inl (o0, _) => some (o0, ())
  | .inr r => match r with
   | .inl _ => some ((-1 : Int), ())
   | .inr _ => none
def place18 [Lk] := fun v => Lk.f (place18_d v)
theorem place18_eq v : place18 v = place18_d v := lock_eq _
-- archipelago/archipelagoref18.Of
abbrev of18_i : Items := [(.tmp 0, .dat (.prod (.int .i64) (.prod (.slice (.slice (.int .i64))) .unit))), (.tmp 1, .di)]
abbrev of18_o : Items := [(.tmp 0, .di)]
abbrev of18_r : List RS := [.one]
def of18_d [Lk] : ((Int × (List (List Int)) × Unit) × Int × Unit) → Option ((Int × Unit)) := fun (a0, a1, _) =>
 match right18 ((a0.1, (a0.2.1, ())), ()) with
 | none => none
 | some (y0, _) => match (!y0) with
  | true => some ((-1 : Int), ())
  | false => match in18 (a0.1, a1, ()) with
   | none => none
   | some (y1, _) => match (!y1) with
    | true => some ((-1 : Int), ())
    | false => match place18 ((a0.1, (a0.2.1, ())), a1, ()) with
     | none => none
     | some (y2, _) => some (y2, ())
def of18 [Lk] := fun v => Lk.f (of18_d v)
theorem of18_eq v : of18 v = of18_d v := lock_eq _
-- archipelago/tour.sized
abbrev tsized_i : Items := [(.tmp 0, .di)]
abbrev tsized_o : Items := [(.tmp 0, .dat .bool)]
abbrev tsized_r : List RS := [.one]
def tsized_d [Lk] : (Int × Unit) → Option ((Bool × Unit)) := fun (a0, _) =>
 match (ile 1 a0) with
 | true => some ((ile a0 64), ())
 | false => some (false, ())
def tsized [Lk] := fun v => Lk.f (tsized_d v)
theorem tsized_eq v : tsized v = tsized_d v := lock_eq _
-- archipelago/tour.in
abbrev tin_i : Items := [(.tmp 0, .di), (.tmp 1, .di)]
abbrev tin_o : Items := [(.tmp 0, .dat .bool)]
abbrev tin_r : List RS := [.one]
def tin_d [Lk] : (Int × Int × Unit) → Option ((Bool × Unit)) := fun (a0, a1, _) =>
 match tsized (a0, ()) with
 | none => none
 | some (y0, _) => match y0 with
  | true => match (ile 0 a1) with
   | true => some ((ilt a1 a0), ())
   | false => some (false, ())
  | false => some (false, ())
def tin [Lk] := fun v => Lk.f (tin_d v)
theorem tin_eq v : tin v = tin_d v := lock_eq _
-- archipelago/tour.Arc
abbrev tarc_i : Items := [(.tmp 0, .di), (.tmp 1, .di), (.tmp 2, .di)]
abbrev tarc_o : Items := [(.tmp 0, .di)]
abbrev tarc_r : List RS := [.one]
def tarc_d [Lk] : (Int × Int × Int × Unit) → Option ((Int × Unit)) := fun (a0, a1, a2, _) =>
 match (ieq a1 a2) with
 | true => some ((-1 : Int), ())
 | false => match tin (a0, a1, ()) with
  | none => none
  | some (y0, _) => match (!y0) with
   | true => some ((-1 : Int), ())
   | false => match tin (a0, a2, ()) with
    | none => none
    | some (y1, _) => match (!y1) with
     | true => some ((-1 : Int), ())
     | false => some ((IntKind.wrap .i64 ((IntKind.wrap .i64 (a0 * (IntKind.wrap .i64 (a1 + 1)))) + a2)), ())
def tarc [Lk] := fun v => Lk.f (tarc_d v)
theorem tarc_eq v : tarc v = tarc_d v := lock_eq _
-- archipelago/tour.Token
abbrev ttoken_i : Items := [(.tmp 0, .di), (.tmp 1, .di)]
abbrev ttoken_o : Items := [(.tmp 0, .di), (.tmp 1, .di), (.tmp 2, .dat .bool), (.tmp 3, .dat .bool)]
abbrev ttoken_r : List RS := [.one, .one, .one, .one]
def ttoken_d [Lk] : (Int × Int × Unit) → Option ((Int × Int × Bool × Bool × Unit)) := fun (a0, a1, _) =>
 match tsized (a0, ()) with
 | none => none
 | some (y0, _) => match (!y0) with
  | true => some (0, 0, false, false, ())
  | false => match (ilt a1 0) with
   | true => some (0, 0, false, false, ())
   | false => match (ile (IntKind.wrap .i64 (a0 * (IntKind.wrap .i64 (a0 + 1)))) a1) with
    | true => some (0, 0, false, false, ())
    | false => match (ilt a1 a0) with
     | true => some (a1, 0, false, true, ())
     | false => match quo? .i64 a1 a0 with
      | none => none
      | some x1 => match rem? a1 a0 with
       | none => none
       | some x2 => match (ieq (IntKind.wrap .i64 (x1 - 1)) x2) with
        | true => some (0, 0, false, false, ())
        | false => some ((IntKind.wrap .i64 (x1 - 1)), x2, true, true, ())
def ttoken [Lk] := fun v => Lk.f (ttoken_d v)
theorem ttoken_eq v : ttoken v = ttoken_d v := lock_eq _
-- archipelago/tour.Make
abbrev tmake_i : Items := [(.tmp 0, .di)]
abbrev tmake_o : Items := [(.tmp 0, .di), (.tmp 1, .own 32 (.slice (.int .i64))), (.tmp 2, .di)]
abbrev tmake_r : List RS := [.agg 2, .one]
abbrev tmake_i0 : Items := [(.tmp 2, .box 2), (.cell 0 0, .di), (.cell 0 1, .nil (.slice (.int .i64))), (.tmp 4, .box 2), (.cell 1 0, .di), (.cell 1 1, .own 32 (.slice (.int .i64))), (.tmp 12, .di), (.tmp 13, .di)]
abbrev tmake_o0 : Outs := [(.exit 0, [(.tmp 2, .box 2), (.cell 0 0, .di), (.cell 0 1, .nil (.slice (.int .i64))), (.tmp 4, .box 2), (.cell 1 0, .di), (.cell 1 1, .own 32 (.slice (.int .i64)))])]
def tmake_s0 [Lk] : (Int × Int × List (List Int) × Int × Int × Unit) → Option ((Int × Int × List (List Int) × Int × Int × Unit) ⊕ (Int × Int × List (List Int) × Unit) ⊕ Unit) := fun (a0, a1, a2, a3, a4, _) =>
 match (ilt a4 a3) with
 | true => match (fits ((dlen a2) + (dlen ([([a4] : List (Int))] : List (List Int))))) with
  | true => some (.inl (a0, a1, (dapp a2 ([([a4] : List (Int))] : List (List Int))), a3, (IntKind.wrap .i64 (a4 + 1)), ()))
  | false => none
 | false => some (.inr (.inl (a0, a1, a2, ())))
def tmake_d [Lk] : (Int × Unit) → Option ((Int × List (List Int) × Int × Unit)) := fun (a0, _) =>
 match tsized (a0, ()) with
 | none => none
 | some (y0, _) => match (!y0) with
  | true => some (0, ([] : List (List Int)), 1, ())
  | false => match iterL tmake_s0 many (0, a0, ([] : List (List Int)), a0, 0, ()) with
   | none => none
   | some r => match r with
    | .inl (o1, o2, o3, _) => some (o2, o3, 0, ())
    | .inr _ => none
def tmake [Lk] := fun v => Lk.f (tmake_d v)
theorem tmake_eq v : tmake v = tmake_d v := lock_eq _
-- slices.Index[[]int,int]
abbrev indexI_i : Items := [(.tmp 0, .dat (.slice (.int .i64))), (.tmp 1, .di)]
abbrev indexI_o : Items := [(.tmp 0, .di)]
abbrev indexI_r : List RS := [.one]
abbrev indexI_i0 : Items := [(.tmp 0, .dat (.slice (.int .i64))), (.tmp 1, .di), (.tmp 7, .di), (.tmp 8, .di)]
abbrev indexI_o0 : Outs := [(.ret, [(.tmp 4, .di)]), (.exit 0, [])]
def indexI_s0 [Lk] : (List Int × Int × Int × Int × Unit) → Option ((List Int × Int × Int × Int × Unit) ⊕ (Int × Unit) ⊕ (Unit) ⊕ Unit) := fun (a0, a1, a2, a3, _) =>
 match (ilt a3 a2) with
 | true => match idx a0 a3 with
  | none => none
  | some x0 => match (ieq a1 x0) with
   | true => some (.inr (.inl (a3, ())))
   | false => some (.inl (a0, a1, a2, (IntKind.wrap .i64 (a3 + 1)), ()))
 | false => some (.inr (.inr (.inl ())))
def indexI_d [Lk] : (List Int × Int × Unit) → Option ((Int × Unit)) := fun (a0, a1, _) =>
 match iterL indexI_s0 many (a0, a1, (dlen a0), 0, ()) with
 | none => none
 | some r => match r with
  | .inl (o0, _) => some (o0, ())
  | .inr r => match r with
   | .inl _ => some ((-1 : Int), ())
   | .inr _ => none
def indexI [Lk] := fun v => Lk.f (indexI_d v)
theorem indexI_eq v : indexI v = indexI_d v := lock_eq _
-- slices.Contains[[]int,int]
abbrev containsI_i : Items := [(.tmp 0, .dat (.slice (.int .i64))), (.tmp 1, .di)]
abbrev containsI_o : Items := [(.tmp 0, .dat .bool)]
abbrev containsI_r : List RS := [.one]
def containsI_d [Lk] : (List Int × Int × Unit) → Option ((Bool × Unit)) := fun (a0, a1, _) =>
 match indexI (a0, a1, ()) with
 | none => none
 | some (y0, _) => some ((ile 0 y0), ())
def containsI [Lk] := fun v => Lk.f (containsI_d v)
theorem containsI_eq v : containsI v = containsI_d v := lock_eq _
-- slices.Min[[]int,int]
abbrev minI_i : Items := [(.tmp 0, .dat (.slice (.int .i64)))]
abbrev minI_o : Items := [(.tmp 0, .di)]
abbrev minI_r : List RS := [.one]
abbrev minI_i0 : Items := [(.tmp 0, .dat (.slice (.int .i64))), (.tmp 3, .di), (.tmp 4, .di)]
abbrev minI_o0 : Outs := [(.exit 0, [(.tmp 3, .di)])]
def minI_s0 [Lk] : (List Int × Int × Int × Unit) → Option ((List Int × Int × Int × Unit) ⊕ (Int × Unit) ⊕ Unit) := fun (a0, a1, a2, _) =>
 match (ilt a2 (dlen a0)) with
 | true => match idx a0 a2 with
  | none => none
  | some x0 => some (.inl (a0, (imin a1 x0), (IntKind.wrap .i64 (a2 + 1)), ()))
 | false => some (.inr (.inl (a1, ())))
def minI_d [Lk] : (List Int × Unit) → Option ((Int × Unit)) := fun (a0, _) =>
 match (ilt (dlen a0) 1) with
 | true => none
 | false => match idx a0 0 with
  | none => none
  | some x0 => match iterL minI_s0 many (a0, x0, 1, ()) with
   | none => none
   | some r => match r with
    | .inl (o1, _) => some (o1, ())
    | .inr _ => none
def minI [Lk] := fun v => Lk.f (minI_d v)
theorem minI_eq v : minI v = minI_d v := lock_eq _
-- slices.Grow[[]int,int]
abbrev growI_i : Items := [(.tmp 0, .nil (.int .i64)), (.tmp 1, .di)]
abbrev growI_o : Items := [(.tmp 0, .own 3 (.int .i64))]
abbrev growI_r : List RS := [.one]
def growI_d [Lk] : (Int × Unit) → Option ((List Int × Unit)) := fun (a0, _) =>
 match (ilt a0 0) with
 | true => none
 | false => match (ilt 0 (IntKind.wrap .i64 (a0 - (IntKind.wrap .i64 (0 - 0))))) with
  | true => match subl ([] : List Unit) 0 0 with
   | none => none
   | some _u0 => match (fitsI (IntKind.wrap .i64 (a0 - (IntKind.wrap .i64 (0 - 0))))) with
    | true => match subl (drep (dnat (IntKind.wrap .i64 (a0 - (IntKind.wrap .i64 ((0 : Int) - (0 : Int)))))) (0 : Int)) (0 : Int) (0 : Int) with
     | none => none
     | some x1 => some ((dtake (dnat (dlen x1)) (drep (dnat (IntKind.wrap .i64 (a0 - (IntKind.wrap .i64 ((0 : Int) - (0 : Int)))))) (0 : Int))), ())
    | false => none
  | false => some (([] : List (Int)), ())
def growI [Lk] := fun v => Lk.f (growI_d v)
theorem growI_eq v : growI v = growI_d v := lock_eq _
-- slices.Concat[[]int,int]
abbrev concatI_i : Items := [(.tmp 0, .dat (.slice (.slice (.int .i64))))]
abbrev concatI_o : Items := [(.tmp 0, .own 3 (.int .i64))]
abbrev concatI_r : List RS := [.one]
abbrev concatI_i1 : Items := [(.tmp 6, .own 3 (.int .i64)), (.tmp 25, .dat (.slice (.slice (.int .i64)))), (.tmp 26, .di), (.tmp 27, .di)]
abbrev concatI_o1 : Outs := [(.exit 2, [(.tmp 6, .own 3 (.int .i64))])]
def concatI_s1 [Lk] : (List Int × List (List Int) × Int × Int × Unit) → Option ((List Int × List (List Int) × Int × Int × Unit) ⊕ (List Int × Unit) ⊕ Unit) := fun (a0, a1, a2, a3, _) =>
 match (ilt a3 a2) with
 | true => match idx a1 a3 with
  | none => none
  | some x0 => match (fits ((dlen a0) + (dlen x0))) with
   | true => some (.inl ((dapp a0 x0), a1, a2, (IntKind.wrap .i64 (a3 + 1)), ()))
   | false => none
 | false => some (.inr (.inl (a0, ())))
abbrev concatI_i0 : Items := [(.tmp 0, .dat (.slice (.slice (.int .i64)))), (.tmp 3, .di), (.tmp 9, .dat (.slice (.slice (.int .i64)))), (.tmp 10, .di), (.tmp 11, .di)]
abbrev concatI_o0 : Outs := [(.exit 0, [(.tmp 0, .dat (.slice (.slice (.int .i64)))), (.tmp 3, .di)])]
def concatI_s0 [Lk] : (List (List Int) × Int × List (List Int) × Int × Int × Unit) → Option ((List (List Int) × Int × List (List Int) × Int × Int × Unit) ⊕ (List (List Int) × Int × Unit) ⊕ Unit) := fun (a0, a1, a2, a3, a4, _) =>
 match (ilt a4 a3) with
 | true => match idx a2 a4 with
  | none => none
  | some x0 => match (ilt (IntKind.wrap .i64 (a1 + (dlen x0))) 0) with
   | true => none
   | false => some (.inl (a0, (IntKind.wrap .i64 (a1 + (dlen x0))), a2, a3, (IntKind.wrap .i64 (a4 + 1)), ()))
 | false => some (.inr (.inl (a0, a1, ())))
def concatI_d [Lk] : (List (List Int) × Unit) → Option ((List Int × Unit)) := fun (a0, _) =>
 match iterL concatI_s0 many (a0, 0, a0, (dlen a0), 0, ()) with
 | none => none
 | some r => match r with
  | .inl (o0, o1, _) => match growI (o1, ()) with
   | none => none
   | some (y2, _) => match iterL concatI_s1 many (y2, o0, (dlen o0), 0, ()) with
    | none => none
    | some r => match r with
     | .inl (o3, _) => some (o3, ())
     | .inr _ => none
  | .inr _ => none
def concatI [Lk] := fun v => Lk.f (concatI_d v)
theorem concatI_eq v : concatI v = concatI_d v := lock_eq _
-- slices.IndexFunc[[]int,int]
abbrev idxFuncI_odd_i : Items := [(.tmp 0, .dat (.slice (.int .i64))), (.tmp 1, .clo 84 [])]
abbrev idxFuncI_odd_o : Items := [(.tmp 0, .di)]
abbrev idxFuncI_odd_r : List RS := [.one]
abbrev idxFuncI_odd_i0 : Items := [(.tmp 0, .dat (.slice (.int .i64))), (.tmp 1, .clo 84 []), (.tmp 7, .di), (.tmp 8, .di)]
abbrev idxFuncI_odd_o0 : Outs := [(.ret, [(.tmp 4, .di)]), (.exit 0, [])]
def idxFuncI_odd_s0 [Lk] : (List Int × Int × Int × Unit) → Option ((List Int × Int × Int × Unit) ⊕ (Int × Unit) ⊕ (Unit) ⊕ Unit) := fun (a0, a1, a2, _) =>
 match (ilt a2 a1) with
 | true => match idx a0 a2 with
  | none => none
  | some x0 => match (ilt x0 0) with
   | true => some (.inr (.inl (a2, ())))
   | false => match (ilt 10000 x0) with
    | true => some (.inr (.inl (a2, ())))
    | false => some (.inl (a0, a1, (IntKind.wrap .i64 (a2 + 1)), ()))
 | false => some (.inr (.inr (.inl ())))
def idxFuncI_odd_d [Lk] : (List Int × Unit) → Option ((Int × Unit)) := fun (a0, _) =>
 match iterL idxFuncI_odd_s0 many (a0, (dlen a0), 0, ()) with
 | none => none
 | some r => match r with
  | .inl (o0, _) => some (o0, ())
  | .inr r => match r with
   | .inl _ => some ((-1 : Int), ())
   | .inr _ => none
def idxFuncI_odd [Lk] := fun v => Lk.f (idxFuncI_odd_d v)
theorem idxFuncI_odd_eq v : idxFuncI_odd v = idxFuncI_odd_d v := lock_eq _
-- slices.ContainsFunc[[]int,int]
abbrev contFuncI_odd_i : Items := [(.tmp 0, .dat (.slice (.int .i64))), (.tmp 1, .clo 84 [])]
abbrev contFuncI_odd_o : Items := [(.tmp 0, .dat .bool)]
abbrev contFuncI_odd_r : List RS := [.one]
def contFuncI_odd_d [Lk] : (List Int × Unit) → Option ((Bool × Unit)) := fun (a0, _) =>
 match idxFuncI_odd (a0, ()) with
 | none => none
 | some (y0, _) => some ((ile 0 y0), ())
def contFuncI_odd [Lk] := fun v => Lk.f (contFuncI_odd_d v)
theorem contFuncI_odd_eq v : contFuncI_odd v = contFuncI_odd_d v := lock_eq _
-- archipelago/ring.once[int]
abbrev once_i : Items := [(.tmp 0, .dat (.slice (.int .i64)))]
abbrev once_o : Items := [(.tmp 0, .dat .bool)]
abbrev once_r : List RS := [.one]
abbrev once_i0 : Items := [(.tmp 0, .dat (.slice (.int .i64))), (.tmp 3, .map (.int .i64) (.int .i64)), (.tmp 7, .dat (.slice (.int .i64))), (.tmp 8, .di), (.tmp 9, .di)]
abbrev once_o0 : Outs := [(.exit 0, [(.tmp 0, .dat (.slice (.int .i64))), (.tmp 3, .map (.int .i64) (.int .i64))])]
def once_s0 [Lk] : (List Int × List (Int × Int) × List Int × Int × Int × Unit) → Option ((List Int × List (Int × Int) × List Int × Int × Int × Unit) ⊕ (List Int × List (Int × Int) × Unit) ⊕ Unit) := fun (a0, a1, a2, a3, a4, _) =>
 match (ilt a4 a3) with
 | true => match idx a2 a4 with
  | none => none
  | some x0 => some (.inl (a0, (storeM a1 x0 (IntKind.wrap .i64 (((lookupM a1 x0).getD 0) + 1))), a2, a3, (IntKind.wrap .i64 (a4 + 1)), ()))
 | false => some (.inr (.inl (a0, a1, ())))
def once_d [Lk] : (List Int × Unit) → Option ((Bool × Unit)) := fun (a0, _) =>
 match iterL once_s0 many (a0, ([] : List (Int × Int)), a0, (dlen a0), 0, ()) with
 | none => none
 | some r => match r with
  | .inl (o0, o1, _) => some ((ieq (dlen o1) (dlen o0)), ())
  | .inr _ => none
def once [Lk] := fun v => Lk.f (once_d v)
theorem once_eq v : once v = once_d v := lock_eq _
-- archipelago/ring.Right
abbrev rright_i : Items := [(.tmp 0, .dat (.slice (.int .i64)))]
abbrev rright_o : Items := [(.tmp 0, .dat .bool)]
abbrev rright_r : List RS := [.one]
def rright_d [Lk] : (List Int × Unit) → Option ((Bool × Unit)) := fun (a0, _) =>
 match (ilt 1000 (dlen a0)) with
 | true => some (false, ())
 | false => match contFuncI_odd (a0, ()) with
  | none => none
  | some (y0, _) => match (!y0) with
   | true => match once (a0, ()) with
    | none => none
    | some (y1, _) => some (y1, ())
   | false => some (false, ())
def rright [Lk] := fun v => Lk.f (rright_d v)
theorem rright_eq v : rright v = rright_d v := lock_eq _
-- archipelago/ring.turned
abbrev turned_i : Items := [(.tmp 0, .dat (.slice (.int .i64))), (.tmp 1, .di)]
abbrev turned_o : Items := [(.tmp 0, .own 3 (.int .i64))]
abbrev turned_r : List RS := [.one]
def turned_d [Lk] : (List Int × Int × Unit) → Option ((List Int × Unit)) := fun (a0, a1, _) =>
 match subl a0 a1 (dlen a0) with
 | none => none
 | some x0 => match subl a0 0 a1 with
  | none => none
  | some x1 => match concatI (([x0, x1] : List (List Int)), ()) with
   | none => none
   | some (y2, _) => some (y2, ())
def turned [Lk] := fun v => Lk.f (turned_d v)
theorem turned_eq v : turned v = turned_d v := lock_eq _
-- archipelago/ring.places
abbrev places_i : Items := [(.tmp 0, .dat (.slice (.int .i64))), (.tmp 1, .dat (.slice (.int .i64)))]
abbrev places_o : Items := [(.tmp 0, .own 3 (.int .i64)), (.tmp 1, .dat .bool)]
abbrev places_r : List RS := [.one, .one]
abbrev places_i0 : Items := [(.tmp 0, .dat (.slice (.int .i64))), (.tmp 6, .own 3 (.int .i64)), (.tmp 12, .dat (.slice (.int .i64))), (.tmp 13, .di), (.tmp 14, .di)]
abbrev places_o0 : Outs := [(.exit 0, [(.tmp 6, .own 3 (.int .i64))])]
def places_s0 [Lk] : (List Int × List Int × List Int × Int × Int × Unit) → Option ((List Int × List Int × List Int × Int × Int × Unit) ⊕ (List Int × Unit) ⊕ Unit) := fun (a0, a1, a2, a3, a4, _) =>
 match (ilt a4 a3) with
 | true => match idx a2 a4 with
  | none => none
  | some x0 => match indexI (a0, x0, ()) with
   | none => none
   | some (y1, _) => match (fits ((dlen a1) + (dlen ([y1] : List (Int))))) with
    | true => some (.inl (a0, (dapp a1 ([y1] : List (Int))), a2, a3, (IntKind.wrap .i64 (a4 + 1)), ()))
    | false => none
 | false => some (.inr (.inl (a1, ())))
def places_d [Lk] : (List Int × List Int × Unit) → Option ((List Int × Bool × Unit)) := fun (a0, a1, _) =>
 match rright (a0, ()) with
 | none => none
 | some (y0, _) => match (!y0) with
  | true => some (([] : List (Int)), false, ())
  | false => match iterL places_s0 many (a0, ([] : List (Int)), a1, (dlen a1), 0, ()) with
   | none => none
   | some r => match r with
    | .inl (o1, _) => match containsI (o1, (-1 : Int), ()) with
     | none => none
     | some (y2, _) => some (o1, (!y2), ())
    | .inr _ => none
def places [Lk] := fun v => Lk.f (places_d v)
theorem places_eq v : places v = places_d v := lock_eq _
-- archipelago/ring.From
abbrev rfrom_i : Items := [(.tmp 0, .dat (.slice (.int .i64))), (.tmp 1, .di)]
abbrev rfrom_o : Items := [(.tmp 0, .own 3 (.int .i64)), (.tmp 1, .dat .bool)]
abbrev rfrom_r : List RS := [.one, .one]
def rfrom_d [Lk] : (List Int × Int × Unit) → Option ((List Int × Bool × Unit)) := fun (a0, a1, _) =>
 match places (a0, ([a1] : List (Int)), ()) with
 | none => none
 | some (y0, y1, _) => match (!y1) with
  | true => some (([] : List (Int)), false, ())
  | false => match idx y0 0 with
   | none => none
   | some x2 => match turned (a0, (dget y0 0 0), ()) with
    | none => none
    | some (y3, _) => some (y3, true, ())
def rfrom [Lk] := fun v => Lk.f (rfrom_d v)
theorem rfrom_eq v : rfrom v = rfrom_d v := lock_eq _
-- archipelago/ring.Plain
abbrev rplain_i : Items := [(.tmp 0, .dat (.slice (.int .i64)))]
abbrev rplain_o : Items := [(.tmp 0, .own 3 (.int .i64))]
abbrev rplain_r : List RS := [.one]
def rplain_d [Lk] : (List Int × Unit) → Option ((List Int × Unit)) := fun (a0, _) =>
 match rright (a0, ()) with
 | none => none
 | some (y0, _) => match (!y0) with
  | true => some (([] : List (Int)), ())
  | false => match (ieq (dlen a0) 0) with
   | true => some (([] : List (Int)), ())
   | false => match minI (a0, ()) with
    | none => none
    | some (y1, _) => match indexI (a0, y1, ()) with
     | none => none
     | some (y2, _) => match turned (a0, y2, ()) with
      | none => none
      | some (y3, _) => some (y3, ())
def rplain [Lk] := fun v => Lk.f (rplain_d v)
theorem rplain_eq v : rplain v = rplain_d v := lock_eq _
-- slices.IndexFunc[[][]int,[]int]
abbrev idxFuncL_place_i : Items := [(.tmp 0, .dat (.slice (.slice (.int .i64)))), (.cap 1 0, .box 1), (.cell 0 0, .di), (.tmp 1, .clo 66 [(0, 0)])]
abbrev idxFuncL_place_o : Items := [(.obj 0, .box 1), (.cell 0 0, .di), (.tmp 0, .di)]
abbrev idxFuncL_place_r : List RS := [.one]
abbrev idxFuncL_place_i0 : Items := [(.obj 0, .box 1), (.cell 0 0, .di), (.tmp 0, .dat (.slice (.slice (.int .i64)))), (.tmp 1, .clo 66 [(0, 0)]), (.tmp 7, .di), (.tmp 8, .di)]
abbrev idxFuncL_place_o0 : Outs := [(.ret, [(.obj 0, .box 1), (.cell 0 0, .di), (.tmp 4, .di)]), (.exit 0, [(.obj 0, .box 1), (.cell 0 0, .di)])]
def idxFuncL_place_s0 [Lk] : (Int × List (List Int) × Int × Int × Unit) → Option ((Int × List (List Int) × Int × Int × Unit) ⊕ (Int × Int × Unit) ⊕ (Int × Unit) ⊕ Unit) := fun (a0, a1, a2, a3, _) =>
 match (ilt a3 a2) with
 | true => match idx a1 a3 with
  | none => none
  | some x0 => match containsI (x0, a0, ()) with
   | none => none
   | some (y1, _) => match y1 with
    | true => some (.inr (.inl (a0, a3, ())))
    | false => some (.inl (a0, a1, a2, (IntKind.wrap .i64 (a3 + 1)), ()))
 | false => some (.inr (.inr (.inl (a0, ()))))
def idxFuncL_place_d [Lk] : (List (List Int) × Int × Unit) → Option ((Int × Int × Unit)) := fun (a0, a1, _) =>
 match iterL idxFuncL_place_s0 many (a1, a0, (dlen a0), 0, ()) with
 | none => none
 | some r => match r with
  | .inl (o0, o1, _) => some (o0, o1, ())
  | .inr r => match r with
   | .inl (o2, _) => some (o2, (-1 : Int), ())
   | .inr _ => none
def idxFuncL_place [Lk] := fun v => Lk.f (idxFuncL_place_d v)
theorem idxFuncL_place_eq v : idxFuncL_place v = idxFuncL_place_d v := lock_eq _
-- archipelago/tour.place
abbrev tplace_i : Items := [(.tmp 0, .dat (.prod (.int .i64) (.prod (.slice (.slice (.int .i64))) .unit))), (.tmp 1, .di)]
abbrev tplace_o : Items := [(.tmp 0, .di)]
abbrev tplace_r : List RS := [.one]
def tplace_d [Lk] : ((Int × (List (List Int)) × Unit) × Int × Unit) → Option ((Int × Unit)) := fun (a0, a1, _) =>
 match idxFuncL_place (a0.2.1, a1, ()) with
 | none => none
 | some (y0, y1, _) => some (y1, ())
def tplace [Lk] := fun v => Lk.f (tplace_d v)
theorem tplace_eq v : tplace v = tplace_d v := lock_eq _
-- archipelago/tour.goes
abbrev goes_i : Items := [(.tmp 0, .di), (.tmp 1, .dat (.slice (.int .i64)))]
abbrev goes_o : Items := [(.tmp 0, .dat .bool)]
abbrev goes_r : List RS := [.one]
abbrev goes_i0 : Items := [(.tmp 0, .di), (.tmp 5, .box 3), (.cell 0 0, .own 3 (.int .i64)), (.cell 0 1, .map (.int .i64) (.int .i64)), (.cell 0 2, .map (.int .i64) (.int .i64)), (.tmp 30, .dat (.slice (.int .i64))), (.tmp 31, .di), (.tmp 32, .di)]
abbrev goes_o0 : Outs := [(.ret, [(.tmp 4, .dat .bool)]), (.exit 0, [(.tmp 5, .box 3), (.cell 0 0, .own 3 (.int .i64)), (.cell 0 1, .map (.int .i64) (.int .i64)), (.cell 0 2, .map (.int .i64) (.int .i64))])]
def goes_s0 [Lk] : (Int × List Int × List (Int × Int) × List (Int × Int) × List Int × Int × Int × Unit) → Option ((Int × List Int × List (Int × Int) × List (Int × Int) × List Int × Int × Int × Unit) ⊕ (Bool × Unit) ⊕ (List Int × List (Int × Int) × List (Int × Int) × Unit) ⊕ Unit) := fun (a0, a1, a2, a3, a4, a5, a6, _) =>
 match (ilt a6 a5) with
 | true => match idx a4 a6 with
  | none => none
  | some x0 => match ttoken (a0, x0, ()) with
   | none => none
   | some (y1, y2, y3, y4, _) => match (!y4) with
    | true => some (.inr (.inl (false, ())))
    | false => match y3 with
     | true => match idx a1 (IntKind.wrap .i64 ((dlen a1) - 1)) with
      | none => none
      | some x5 => match (!(ieq (dget a1 (dnat (IntKind.wrap .i64 ((dlen a1) - 1))) 0) y1)) with
       | true => some (.inr (.inl (false, ())))
       | false => match (ilt 0 (IntKind.wrap .i64 ((dlen a1) - 1))) with
        | true => match idx a1 (IntKind.wrap .i64 ((IntKind.wrap .i64 ((dlen a1) - 1)) - 1)) with
         | none => none
         | some x6 => match (ieq (dget a1 (dnat (IntKind.wrap .i64 ((IntKind.wrap .i64 ((dlen a1) - 1)) - 1))) 0) y2) with
          | true => match subl a1 0 (IntKind.wrap .i64 ((dlen a1) - 1)) with
           | none => none
           | some x7 => match (!y3) with
            | true => match idx (dcut 0 (dnat (dlen x7)) a1) (IntKind.wrap .i64 ((((dnat (dlen x7)) : Nat) : Int) - 1)) with
             | none => none
             | some x8 => match (!(ieq (dget a1 (0 + (dnat (IntKind.wrap .i64 ((((dnat (dlen x7)) : Nat) : Int) - 1)))) 0) y1)) with
              | true => some (.inr (.inl (false, ())))
              | false => match (!y3) with
               | true => some (.inl (a0, (dtake (dnat (dlen x7)) a1), a2, (storeM a3 y1 (IntKind.wrap .i64 (((lookupM a3 y1).getD 0) + 1))), a4, a5, (IntKind.wrap .i64 (a6 + 1)), ()))
               | false => some (.inl (a0, (dtake (dnat (dlen x7)) a1), a2, a3, a4, a5, (IntKind.wrap .i64 (a6 + 1)), ()))
            | false => match (!y3) with
             | true => some (.inl (a0, (dtake (dnat (dlen x7)) a1), a2, (storeM a3 y1 (IntKind.wrap .i64 (((lookupM a3 y1).getD 0) + 1))), a4, a5, (IntKind.wrap .i64 (a6 + 1)), ()))
             | false => some (.inl (a0, (dtake (dnat (dlen x7)) a1), a2, a3, a4, a5, (IntKind.wrap .i64 (a6 + 1)), ()))
          | false => match (ilt 0 ((lookupM a2 y2).getD 0)) with
           | true => some (.inr (.inl (false, ())))
           | false => match (fits ((dlen a1) + (dlen ([y2] : List (Int))))) with
            | true => match (!y3) with
             | true => match idx (dapp a1 ([y2] : List (Int))) (IntKind.wrap .i64 ((dlen (dapp a1 ([y2] : List (Int)))) - 1)) with
              | none => none
              | some x9 => match (!(ieq (dget (dapp a1 ([y2] : List (Int))) (dnat (IntKind.wrap .i64 ((dlen (dapp a1 ([y2] : List (Int)))) - 1))) 0) y1)) with
               | true => some (.inr (.inl (false, ())))
               | false => match (!y3) with
                | true => some (.inl (a0, (dapp a1 ([y2] : List (Int))), (storeM a2 y2 (IntKind.wrap .i64 (((lookupM a2 y2).getD 0) + 1))), (storeM a3 y1 (IntKind.wrap .i64 (((lookupM a3 y1).getD 0) + 1))), a4, a5, (IntKind.wrap .i64 (a6 + 1)), ()))
                | false => some (.inl (a0, (dapp a1 ([y2] : List (Int))), (storeM a2 y2 (IntKind.wrap .i64 (((lookupM a2 y2).getD 0) + 1))), a3, a4, a5, (IntKind.wrap .i64 (a6 + 1)), ()))
             | false => match (!y3) with
              | true => some (.inl (a0, (dapp a1 ([y2] : List (Int))), (storeM a2 y2 (IntKind.wrap .i64 (((lookupM a2 y2).getD 0) + 1))), (storeM a3 y1 (IntKind.wrap .i64 (((lookupM a3 y1).getD 0) + 1))), a4, a5, (IntKind.wrap .i64 (a6 + 1)), ()))
              | false => some (.inl (a0, (dapp a1 ([y2] : List (Int))), (storeM a2 y2 (IntKind.wrap .i64 (((lookupM a2 y2).getD 0) + 1))), a3, a4, a5, (IntKind.wrap .i64 (a6 + 1)), ()))
            | false => none
        | false => match (ilt 0 ((lookupM a2 y2).getD 0)) with
         | true => some (.inr (.inl (false, ())))
         | false => match (fits ((dlen a1) + (dlen ([y2] : List (Int))))) with
          | true => match (!y3) with
           | true => match idx (dapp a1 ([y2] : List (Int))) (IntKind.wrap .i64 ((dlen (dapp a1 ([y2] : List (Int)))) - 1)) with
            | none => none
            | some x10 => match (!(ieq (dget (dapp a1 ([y2] : List (Int))) (dnat (IntKind.wrap .i64 ((dlen (dapp a1 ([y2] : List (Int)))) - 1))) 0) y1)) with
             | true => some (.inr (.inl (false, ())))
             | false => match (!y3) with
              | true => some (.inl (a0, (dapp a1 ([y2] : List (Int))), (storeM a2 y2 (IntKind.wrap .i64 (((lookupM a2 y2).getD 0) + 1))), (storeM a3 y1 (IntKind.wrap .i64 (((lookupM a3 y1).getD 0) + 1))), a4, a5, (IntKind.wrap .i64 (a6 + 1)), ()))
              | false => some (.inl (a0, (dapp a1 ([y2] : List (Int))), (storeM a2 y2 (IntKind.wrap .i64 (((lookupM a2 y2).getD 0) + 1))), a3, a4, a5, (IntKind.wrap .i64 (a6 + 1)), ()))
           | false => match (!y3) with
            | true => some (.inl (a0, (dapp a1 ([y2] : List (Int))), (storeM a2 y2 (IntKind.wrap .i64 (((lookupM a2 y2).getD 0) + 1))), (storeM a3 y1 (IntKind.wrap .i64 (((lookupM a3 y1).getD 0) + 1))), a4, a5, (IntKind.wrap .i64 (a6 + 1)), ()))
            | false => some (.inl (a0, (dapp a1 ([y2] : List (Int))), (storeM a2 y2 (IntKind.wrap .i64 (((lookupM a2 y2).getD 0) + 1))), a3, a4, a5, (IntKind.wrap .i64 (a6 + 1)), ()))
          | false => none
     | false => match (!y3) with
      | true => match idx a1 (IntKind.wrap .i64 ((dlen a1) - 1)) with
       | none => none
       | some x11 => match (!(ieq (dget a1 (dnat (IntKind.wrap .i64 ((dlen a1) - 1))) 0) y1)) with
        | true => some (.inr (.inl (false, ())))
        | false => match (!y3) with
         | true => some (.inl (a0, a1, a2, (storeM a3 y1 (IntKind.wrap .i64 (((lookupM a3 y1).getD 0) + 1))), a4, a5, (IntKind.wrap .i64 (a6 + 1)), ()))
         | false => some (.inl (a0, a1, a2, a3, a4, a5, (IntKind.wrap .i64 (a6 + 1)), ()))
      | false => match (!y3) with
       | true => some (.inl (a0, a1, a2, (storeM a3 y1 (IntKind.wrap .i64 (((lookupM a3 y1).getD 0) + 1))), a4, a5, (IntKind.wrap .i64 (a6 + 1)), ()))
       | false => some (.inl (a0, a1, a2, a3, a4, a5, (IntKind.wrap .i64 (a6 + 1)), ()))
 | false => some (.inr (.inr (.inl (a1, a2, a3, ()))))
def goes_d [Lk] : (Int × List Int × Unit) → Option ((Bool × Unit)) := fun (a0, a1, _) =>
 match idx a1 0 with
 | none => none
 | some x0 => match tin (a0, x0, ()) with
  | none => none
  | some (y1, _) => match (!y1) with
   | true => some (false, ())
   | false => match idx a1 0 with
    | none => none
    | some x2 => match idx a1 0 with
     | none => none
     | some x3 => match iterL goes_s0 many (a0, ([x2] : List (Int)), (storeM ([] : List (Int × Int)) x3 1), ([] : List (Int × Int)), a1, (dlen a1), 0, ()) with
      | none => none
      | some r => match r with
       | .inl (o4, _) => some (o4, ())
       | .inr r => match r with
        | .inl (o5, o6, o7, _) => match (ieq (dlen o5) 1) with
         | true => some ((ieq (dlen o7) (dlen o6)), ())
         | false => some (false, ())
        | .inr _ => none
def goes [Lk] := fun v => Lk.f (goes_d v)
theorem goes_eq v : goes v = goes_d v := lock_eq _
-- archipelago/tour.Right
abbrev tright_i : Items := [(.tmp 0, .dat (.prod (.int .i64) (.prod (.slice (.slice (.int .i64))) .unit)))]
abbrev tright_o : Items := [(.tmp 0, .dat .bool)]
abbrev tright_r : List RS := [.one]
abbrev tright_i2 : Items := [(.tmp 3, .map (.int .i64) (.int .i64)), (.tmp 78, .di), (.tmp 79, .di)]
abbrev tright_o2 : Outs := [(.ret, [(.tmp 2, .dat .bool)]), (.exit 4, [])]
def tright_s2 [Lk] : (List (Int × Int) × Int × Int × Unit) → Option ((List (Int × Int) × Int × Int × Unit) ⊕ (Bool × Unit) ⊕ (Unit) ⊕ Unit) := fun (a0, a1, a2, _) =>
 match (ilt a2 a1) with
 | true => match (ieq ((lookupM a0 a2).getD 0) 0) with
  | true => some (.inr (.inl (false, ())))
  | false => some (.inl (a0, a1, (IntKind.wrap .i64 (a2 + 1)), ()))
 | false => some (.inr (.inr (.inl ())))
abbrev tright_i1 : Items := [(.tmp 1, .box 2), (.cell 0 0, .di), (.cell 0 1, .dat (.slice (.slice (.int .i64)))), (.tmp 3, .map (.int .i64) (.int .i64)), (.tmp 4, .di), (.tmp 16, .dat (.slice (.slice (.int .i64)))), (.tmp 17, .di), (.tmp 18, .di), (.tmp 26, .dat (.slice (.int .i64))), (.tmp 28, .di), (.tmp 29, .di), (.tmp 30, .dat .bool), (.tmp 33, .dat (.slice (.int .i64))), (.tmp 34, .dat .bool), (.tmp 35, .dat .bool), (.tmp 38, .dat (.slice (.int .i64))), (.tmp 39, .di), (.tmp 40, .dat (.slice (.int .i64))), (.tmp 42, .di), (.tmp 43, .dat .bool), (.tmp 46, .ptr' 0 0), (.tmp 47, .di), (.tmp 48, .dat (.slice (.int .i64))), (.tmp 49, .dat .bool), (.tmp 50, .dat .bool), (.tmp 55, .dat (.slice (.int .i64))), (.tmp 56, .di), (.tmp 57, .di)]
abbrev tright_o1 : Outs := [(.ret, [(.tmp 2, .dat .bool)]), (.exit 2, [(.tmp 1, .box 2), (.cell 0 0, .di), (.cell 0 1, .dat (.slice (.slice (.int .i64)))), (.tmp 3, .map (.int .i64) (.int .i64)), (.tmp 4, .di), (.tmp 16, .dat (.slice (.slice (.int .i64)))), (.tmp 17, .di), (.tmp 18, .di), (.tmp 26, .dat (.slice (.int .i64))), (.tmp 28, .di), (.tmp 29, .di), (.tmp 30, .dat .bool), (.tmp 33, .dat (.slice (.int .i64))), (.tmp 34, .dat .bool), (.tmp 35, .dat .bool), (.tmp 38, .dat (.slice (.int .i64))), (.tmp 39, .di), (.tmp 40, .dat (.slice (.int .i64))), (.tmp 42, .di), (.tmp 43, .dat .bool), (.tmp 46, .ptr' 0 0), (.tmp 47, .di), (.tmp 48, .dat (.slice (.int .i64))), (.tmp 49, .dat .bool), (.tmp 50, .dat .bool)])]
def tright_s1 [Lk] : (Int × List (List Int) × List (Int × Int) × Int × List (List Int) × Int × Int × List Int × Int × Int × Bool × List Int × Bool × Bool × List Int × Int × List Int × Int × Bool × Int × List Int × Bool × Bool × List Int × Int × Int × Unit) → Option ((Int × List (List Int) × List (Int × Int) × Int × List (List Int) × Int × Int × List Int × Int × Int × Bool × List Int × Bool × Bool × List Int × Int × List Int × Int × Bool × Int × List Int × Bool × Bool × List Int × Int × Int × Unit) ⊕ (Bool × Unit) ⊕ (Int × List (List Int) × List (Int × Int) × Int × List (List Int) × Int × Int × List Int × Int × Int × Bool × List Int × Bool × Bool × List Int × Int × List Int × Int × Bool × Int × List Int × Bool × Bool × Unit) ⊕ Unit) := fun (a0, a1, a2, a3, a4, a5, a6, a7, a8, a9, a10, a11, a12, a13, a14, a15, a16, a17, a18, a19, a20, a21, a22, a23, a24, a25, _) =>
 match (ilt a25 a24) with
 | true => match idx a23 a25 with
  | none => none
  | some x0 => match (ilt x0 a0) with
   | true => match (ilt 0 ((lookupM a2 x0).getD 0)) with
    | true => some (.inr (.inl (false, ())))
    | false => some (.inl (a0, a1, (storeM a2 x0 (IntKind.wrap .i64 (((lookupM a2 x0).getD 0) + 1))), a3, a4, a5, a6, a7, a8, a9, a10, a11, a12, a13, a14, a15, a16, a17, a18, a19, a20, a21, a22, a23, a24, (IntKind.wrap .i64 (a25 + 1)), ()))
   | false => some (.inl (a0, a1, (storeM a2 x0 (IntKind.wrap .i64 (((lookupM a2 x0).getD 0) + 1))), a3, a4, a5, a6, a7, a8, a9, a10, a11, a12, a13, a14, a15, a16, a17, a18, a19, a20, a21, a22, a23, a24, (IntKind.wrap .i64 (a25 + 1)), ()))
 | false => some (.inr (.inr (.inl (a0, a1, a2, a3, a4, a5, a6, a7, a8, a9, a10, a11, a12, a13, a14, a15, a16, a17, a18, a19, a20, a21, a22, ()))))
abbrev tright_i0 : Items := [(.tmp 1, .box 2), (.cell 0 0, .di), (.cell 0 1, .dat (.slice (.slice (.int .i64)))), (.tmp 3, .map (.int .i64) (.int .i64)), (.tmp 4, .di), (.tmp 16, .dat (.slice (.slice (.int .i64)))), (.tmp 17, .di), (.tmp 18, .di)]
abbrev tright_o0 : Outs := [(.ret, [(.tmp 2, .dat .bool)]), (.exit 0, [(.tmp 1, .box 2), (.cell 0 0, .di), (.cell 0 1, .dat (.slice (.slice (.int .i64)))), (.tmp 3, .map (.int .i64) (.int .i64))])]
def tright_s0 [Lk] : (Int × List (List Int) × List (Int × Int) × Int × List (List Int) × Int × Int × Unit) → Option ((Int × List (List Int) × List (Int × Int) × Int × List (List Int) × Int × Int × Unit) ⊕ (Bool × Unit) ⊕ (Int × List (List Int) × List (Int × Int) × Unit) ⊕ Unit) := fun (a0, a1, a2, a3, a4, a5, a6, _) =>
 match (ilt a6 a5) with
 | true => match idx a4 a6 with
  | none => none
  | some x0 => match (ieq (dlen x0) 0) with
   | true => some (.inr (.inl (false, ())))
   | false => match idx x0 0 with
    | none => none
    | some x1 => match (ile x1 a3) with
     | true => some (.inr (.inl (false, ())))
     | false => match rright (x0, ()) with
      | none => none
      | some (y2, _) => match (!y2) with
       | true => some (.inr (.inl (false, ())))
       | false => match minI (x0, ()) with
        | none => none
        | some (y3, _) => match idx x0 0 with
         | none => none
         | some x4 => match (!(ieq y3 x4)) with
          | true => some (.inr (.inl (false, ())))
          | false => match goes (a0, x0, ()) with
           | none => none
           | some (y5, _) => match (!y5) with
            | true => some (.inr (.inl (false, ())))
            | false => match idx x0 0 with
             | none => none
             | some x6 => match iterL tright_s1 many (a0, a1, a2, x6, a4, a5, a6, x0, x1, a3, (ile x1 a3), x0, y2, (!y2), x0, y3, x0, x4, (!(ieq y3 x4)), a0, x0, y5, (!y5), x0, (dlen x0), 0, ()) with
              | none => none
              | some r => match r with
               | .inl (o7, _) => some (.inr (.inl (o7, ())))
               | .inr r => match r with
                | .inl (o8, o9, o10, o11, o12, o13, o14, o15, o16, o17, o18, o19, o20, o21, o22, o23, o24, o25, o26, o27, o28, o29, o30, _) => some (.inl (o8, o9, o10, o11, o12, o13, (IntKind.wrap .i64 (o14 + 1)), ()))
                | .inr _ => none
 | false => some (.inr (.inr (.inl (a0, a1, a2, ()))))
def tright_d [Lk] : ((Int × (List (List Int)) × Unit) × Unit) → Option ((Bool × Unit)) := fun (a0, _) =>
 match tsized (a0.1, ()) with
 | none => none
 | some (y0, _) => match (!y0) with
  | true => some (false, ())
  | false => match iterL tright_s0 many (a0.1, a0.2.1, ([] : List (Int × Int)), (-1 : Int), a0.2.1, (dlen a0.2.1), 0, ()) with
   | none => none
   | some r => match r with
    | .inl (o1, _) => some (o1, ())
    | .inr r => match r with
     | .inl (o2, o3, o4, _) => match iterL tright_s2 many (o4, o2, 0, ()) with
      | none => none
      | some r => match r with
       | .inl (o5, _) => some (o5, ())
       | .inr r => match r with
        | .inl _ => some (true, ())
        | .inr _ => none
     | .inr _ => none
def tright [Lk] := fun v => Lk.f (tright_d v)
theorem tright_eq v : tright v = tright_d v := lock_eq _
-- archipelago/tour.Of
abbrev tof_i : Items := [(.tmp 0, .dat (.prod (.int .i64) (.prod (.slice (.slice (.int .i64))) .unit))), (.tmp 1, .di)]
abbrev tof_o : Items := [(.tmp 0, .di)]
abbrev tof_r : List RS := [.one]
def tof_d [Lk] : ((Int × (List (List Int)) × Unit) × Int × Unit) → Option ((Int × Unit)) := fun (a0, a1, _) =>
 match tin (a0.1, a1, ()) with
 | none => none
 | some (y0, _) => match (!y0) with
  | true => some ((-1 : Int), ())
  | false => match tright ((a0.1, (a0.2.1, ())), ()) with
   | none => none
   | some (y1, _) => match (!y1) with
    | true => some ((-1 : Int), ())
    | false => match tplace ((a0.1, (a0.2.1, ())), a1, ()) with
     | none => none
     | some (y2, _) => some (y2, ())
def tof [Lk] := fun v => Lk.f (tof_d v)
theorem tof_eq v : tof v = tof_d v := lock_eq _
-- archipelago/tour.asked
abbrev asked_i : Items := [(.tmp 0, .dat (.prod (.int .i64) (.prod (.slice (.slice (.int .i64))) .unit))), (.tmp 1, .di), (.tmp 2, .di)]
abbrev asked_o : Items := [(.tmp 0, .di)]
abbrev asked_r : List RS := [.one]
def asked_d [Lk] : ((Int × (List (List Int)) × Unit) × Int × Int × Unit) → Option ((Int × Unit)) := fun (a0, a1, a2, _) =>
 match tright ((a0.1, (a0.2.1, ())), ()) with
 | none => none
 | some (y0, _) => match (!y0) with
  | true => some (1, ())
  | false => match tin (a0.1, a1, ()) with
   | none => none
   | some (y1, _) => match (!y1) with
    | true => some (10, ())
    | false => match tin (a0.1, a2, ()) with
     | none => none
     | some (y2, _) => match (!y2) with
      | true => some (10, ())
      | false => some (0, ())
def asked [Lk] := fun v => Lk.f (asked_d v)
theorem asked_eq v : asked v = asked_d v := lock_eq _
-- cmp.isNaN[int]
abbrev nanI_i : Items := [(.tmp 0, .di)]
abbrev nanI_o : Items := [(.tmp 0, .dat .bool)]
abbrev nanI_r : List RS := [.one]
def nanI_d [Lk] : (Int × Unit) → Option ((Bool × Unit)) := fun (a0, _) =>
 some ((!(ieq a0 a0)), ())
def nanI [Lk] := fun v => Lk.f (nanI_d v)
theorem nanI_eq v : nanI v = nanI_d v := lock_eq _
-- cmp.Compare[int]
abbrev compareI_i : Items := [(.tmp 0, .di), (.tmp 1, .di)]
abbrev compareI_o : Items := [(.tmp 0, .di)]
abbrev compareI_r : List RS := [.one]
def compareI_d [Lk] : (Int × Int × Unit) → Option ((Int × Unit)) := fun (a0, a1, _) =>
 match nanI (a0, ()) with
 | none => none
 | some (y0, _) => match nanI (a1, ()) with
  | none => none
  | some (y1, _) => match y0 with
   | true => match y1 with
    | true => some (0, ())
    | false => some ((-1 : Int), ())
   | false => match y1 with
    | true => some (1, ())
    | false => match (ilt a0 a1) with
     | true => some ((-1 : Int), ())
     | false => match (ilt a1 a0) with
      | true => some (1, ())
      | false => some (0, ())
def compareI [Lk] := fun v => Lk.f (compareI_d v)
theorem compareI_eq v : compareI v = compareI_d v := lock_eq _
-- archipelago/tour.with$1
abbrev with1_i : Items := [(.tmp 0, .dat (.slice (.int .i64))), (.tmp 1, .dat (.slice (.int .i64)))]
abbrev with1_o : Items := [(.tmp 0, .di)]
abbrev with1_r : List RS := [.one]
def with1_d [Lk] : (List Int × List Int × Unit) → Option ((Int × Unit)) := fun (a0, a1, _) =>
 match idx a0 0 with
 | none => none
 | some x0 => match idx a1 0 with
  | none => none
  | some x1 => match compareI (x0, x1, ()) with
   | none => none
   | some (y2, _) => some (y2, ())
def with1 [Lk] := fun v => Lk.f (with1_d v)
theorem with1_eq v : with1 v = with1_d v := lock_eq _
-- math/bits.Len64
def lenTab : List Int := [0, 1, 2, 2, 3, 3, 3, 3, 4, 4, 4, 4, 4, 4, 4, 4, 5, 5, 5, 5, 5, 5, 5, 5, 5, 5, 5, 5, 5, 5, 5, 5, 6, 6, 6, 6, 6, 6, 6, 6, 6, 6, 6, 6, 6, 6, 6, 6, 6, 6, 6, 6, 6, 6, 6, 6, 6, 6, 6, 6, 6, 6, 6, 6, 7, 7, 7, 7, 7, 7, 7, 7, 7, 7, 7, 7, 7, 7, 7, 7, 7, 7, 7, 7, 7, 7, 7, 7, 7, 7, 7, 7, 7, 7, 7, 7, 7, 7, 7, 7, 7, 7, 7, 7, 7, 7, 7, 7, 7, 7, 7, 7, 7, 7, 7, 7, 7, 7, 7, 7, 7, 7, 7, 7, 7, 7, 7, 7, 8, 8, 8, 8, 8, 8, 8, 8, 8, 8, 8, 8, 8, 8, 8, 8, 8, 8, 8, 8, 8, 8, 8, 8, 8, 8, 8, 8, 8, 8, 8, 8, 8, 8, 8, 8, 8, 8, 8, 8, 8, 8, 8, 8, 8, 8, 8, 8, 8, 8, 8, 8, 8, 8, 8, 8, 8, 8, 8, 8, 8, 8, 8, 8, 8, 8, 8, 8, 8, 8, 8, 8, 8, 8, 8, 8, 8, 8, 8, 8, 8, 8, 8, 8, 8, 8, 8, 8, 8, 8, 8, 8, 8, 8, 8, 8, 8, 8, 8, 8, 8, 8, 8, 8, 8, 8, 8, 8, 8, 8, 8, 8, 8, 8, 8, 8, 8, 8, 8, 8, 8, 8, 8, 8, 8, 8, 8, 8]
abbrev len64_i : Items := [(.tmp 0, .dat (.int .u64))]
abbrev len64_o : Items := [(.tmp 0, .di)]
abbrev len64_r : List RS := [.one]
def len64_d [Lk] : (Int × Unit) → Option ((Int × Unit)) := fun (a0, _) =>
 match (ile 4294967296 a0) with
 | true => match shr? .u64 a0 32 with
  | none => none
  | some x0 => match (ile 65536 x0) with
   | true => match shr? .u64 x0 16 with
    | none => none
    | some x1 => match (ile 256 x1) with
     | true => match shr? .u64 x1 8 with
      | none => none
      | some x2 => match idx lenTab (IntKind.wrap .u8 x2) with
       | none => none
       | some x3 => some ((IntKind.wrap .i64 ((IntKind.wrap .i64 ((IntKind.wrap .i64 (32 + 16)) + 8)) + (IntKind.wrap .i64 x3))), ())
     | false => match idx lenTab (IntKind.wrap .u8 x1) with
      | none => none
      | some x4 => some ((IntKind.wrap .i64 ((IntKind.wrap .i64 (32 + 16)) + (IntKind.wrap .i64 x4))), ())
   | false => match (ile 256 x0) with
    | true => match shr? .u64 x0 8 with
     | none => none
     | some x5 => match idx lenTab (IntKind.wrap .u8 x5) with
      | none => none
      | some x6 => some ((IntKind.wrap .i64 ((IntKind.wrap .i64 (32 + 8)) + (IntKind.wrap .i64 x6))), ())
    | false => match idx lenTab (IntKind.wrap .u8 x0) with
     | none => none
     | some x7 => some ((IntKind.wrap .i64 (32 + (IntKind.wrap .i64 x7))), ())
 | false => match (ile 65536 a0) with
  | true => match shr? .u64 a0 16 with
   | none => none
   | some x8 => match (ile 256 x8) with
    | true => match shr? .u64 x8 8 with
     | none => none
     | some x9 => match idx lenTab (IntKind.wrap .u8 x9) with
      | none => none
      | some x10 => some ((IntKind.wrap .i64 ((IntKind.wrap .i64 ((IntKind.wrap .i64 (0 + 16)) + 8)) + (IntKind.wrap .i64 x10))), ())
    | false => match idx lenTab (IntKind.wrap .u8 x8) with
     | none => none
     | some x11 => some ((IntKind.wrap .i64 ((IntKind.wrap .i64 (0 + 16)) + (IntKind.wrap .i64 x11))), ())
  | false => match (ile 256 a0) with
   | true => match shr? .u64 a0 8 with
    | none => none
    | some x12 => match idx lenTab (IntKind.wrap .u8 x12) with
     | none => none
     | some x13 => some ((IntKind.wrap .i64 ((IntKind.wrap .i64 (0 + 8)) + (IntKind.wrap .i64 x13))), ())
   | false => match idx lenTab (IntKind.wrap .u8 a0) with
    | none => none
    | some x14 => some ((IntKind.wrap .i64 (0 + (IntKind.wrap .i64 x14))), ())
def len64 [Lk] := fun v => Lk.f (len64_d v)
theorem len64_eq v : len64 v = len64_d v := lock_eq _
-- math/bits.Len
abbrev bitsLen_i : Items := [(.tmp 0, .dat (.int .u64))]
abbrev bitsLen_o : Items := [(.tmp 0, .di)]
abbrev bitsLen_r : List RS := [.one]
def bitsLen_d [Lk] : (Int × Unit) → Option ((Int × Unit)) := fun (a0, _) =>
 match len64 (a0, ()) with
 | none => none
 | some (y0, _) => some (y0, ())
def bitsLen [Lk] := fun v => Lk.f (bitsLen_d v)
theorem bitsLen_eq v : bitsLen v = bitsLen_d v := lock_eq _
-- (*slices.xorshift).Next
abbrev xorNext_i : Items := [(.tmp 0, .box 1), (.cell 0 0, .dat (.int .u64))]
abbrev xorNext_o : Items := [(.obj 0, .box 1), (.cell 0 0, .dat (.int .u64)), (.tmp 0, .dat (.int .u64))]
abbrev xorNext_r : List RS := [.one]
def xorNext_d [Lk] : (Int × Unit) → Option ((Int × Int × Unit)) := fun (a0, _) =>
 match shl? .u64 a0 13 with
 | none => none
 | some x0 => match shr? .u64 (IntKind.wrap .u64 ((BitVec.ofInt (IntKind.bits .u64) a0 ^^^ BitVec.ofInt (IntKind.bits .u64) x0).toNat)) 7 with
  | none => none
  | some x1 => match shl? .u64 (IntKind.wrap .u64 ((BitVec.ofInt (IntKind.bits .u64) (IntKind.wrap .u64 ((BitVec.ofInt (IntKind.bits .u64) a0 ^^^ BitVec.ofInt (IntKind.bits .u64) x0).toNat)) ^^^ BitVec.ofInt (IntKind.bits .u64) x1).toNat)) 17 with
   | none => none
   | some x2 => some ((IntKind.wrap .u64 ((BitVec.ofInt (IntKind.bits .u64) (IntKind.wrap .u64 ((BitVec.ofInt (IntKind.bits .u64) (IntKind.wrap .u64 ((BitVec.ofInt (IntKind.bits .u64) a0 ^^^ BitVec.ofInt (IntKind.bits .u64) x0).toNat)) ^^^ BitVec.ofInt (IntKind.bits .u64) x1).toNat)) ^^^ BitVec.ofInt (IntKind.bits .u64) x2).toNat)), (IntKind.wrap .u64 ((BitVec.ofInt (IntKind.bits .u64) (IntKind.wrap .u64 ((BitVec.ofInt (IntKind.bits .u64) (IntKind.wrap .u64 ((BitVec.ofInt (IntKind.bits .u64) a0 ^^^ BitVec.ofInt (IntKind.bits .u64) x0).toNat)) ^^^ BitVec.ofInt (IntKind.bits .u64) x1).toNat)) ^^^ BitVec.ofInt (IntKind.bits .u64) x2).toNat)), ())
def xorNext [Lk] := fun v => Lk.f (xorNext_d v)
theorem xorNext_eq v : xorNext v = xorNext_d v := lock_eq _
-- slices.nextPowerOfTwo
abbrev nextPow_i : Items := [(.tmp 0, .di)]
abbrev nextPow_o : Items := [(.tmp 0, .dat (.int .u64))]
abbrev nextPow_r : List RS := [.one]
def nextPow_d [Lk] : (Int × Unit) → Option ((Int × Unit)) := fun (a0, _) =>
 match bitsLen ((IntKind.wrap .u64 a0), ()) with
 | none => none
 | some (y0, _) => match shl? .u64 1 y0 with
  | none => none
  | some x1 => some (x1, ())
def nextPow [Lk] := fun v => Lk.f (nextPow_d v)
theorem nextPow_eq v : nextPow v = nextPow_d v := lock_eq _
-- slices.insertionSortCmpFunc[[]int]
abbrev insL_i : Items := [(.tmp 0, .own 32 (.slice (.int .i64))), (.tmp 1, .di), (.tmp 2, .di), (.tmp 3, .clo 99 [])]
abbrev insL_o : Items := [(.obj 0, .own 32 (.slice (.int .i64)))]
abbrev insL_r : List RS := []
abbrev insL_i1 : Items := [(.obj 0, .own 32 (.slice (.int .i64))), (.tmp 0, .own' 0), (.tmp 1, .di), (.tmp 2, .di), (.tmp 3, .clo 99 []), (.tmp 8, .di), (.tmp 9, .di)]
abbrev insL_o1 : Outs := [(.exit 2, [(.obj 0, .own 32 (.slice (.int .i64))), (.tmp 0, .own' 0), (.tmp 1, .di), (.tmp 2, .di), (.tmp 3, .clo 99 []), (.tmp 8, .di)])]
def insL_s1 [Lk] : (List (List Int) × Int × Int × Int × Int × Unit) → Option ((List (List Int) × Int × Int × Int × Int × Unit) ⊕ (List (List Int) × Int × Int × Int × Unit) ⊕ Unit) := fun (a0, a1, a2, a3, a4, _) =>
 match (ilt a1 a4) with
 | true => match idx a0 a4 with
  | none => none
  | some x0 => match idx a0 (IntKind.wrap .i64 (a4 - 1)) with
   | none => none
   | some x1 => match with1 ((dget a0 (dnat a4) ([] : List (Int))), (dget a0 (dnat (IntKind.wrap .i64 (a4 - 1))) ([] : List (Int))), ()) with
    | none => none
    | some (y2, _) => match (ilt y2 0) with
     | true => match idx a0 (IntKind.wrap .i64 (a4 - 1)) with
      | none => none
      | some x3 => match idx a0 a4 with
       | none => none
       | some x4 => match idx a0 a4 with
        | none => none
        | some x5 => match idx (dset a0 (dnat a4) (dget a0 (dnat (IntKind.wrap .i64 (a4 - 1))) ([] : List (Int)))) (IntKind.wrap .i64 (a4 - 1)) with
         | none => none
         | some x6 => some (.inl ((dset (dset a0 (dnat a4) (dget a0 (dnat (IntKind.wrap .i64 (a4 - 1))) ([] : List (Int)))) (dnat (IntKind.wrap .i64 (a4 - 1))) (dget a0 (dnat a4) ([] : List (Int)))), a1, a2, a3, (IntKind.wrap .i64 (a4 - 1)), ()))
     | false => some (.inr (.inl (a0, a1, a2, a3, ())))
 | false => some (.inr (.inl (a0, a1, a2, a3, ())))
abbrev insL_i0 : Items := [(.obj 0, .own 32 (.slice (.int .i64))), (.tmp 0, .own' 0), (.tmp 1, .di), (.tmp 2, .di), (.tmp 3, .clo 99 []), (.tmp 8, .di)]
abbrev insL_o0 : Outs := [(.exit 0, [(.obj 0, .own 32 (.slice (.int .i64)))])]
def insL_s0 [Lk] : (List (List Int) × Int × Int × Int × Unit) → Option ((List (List Int) × Int × Int × Int × Unit) ⊕ (List (List Int) × Unit) ⊕ Unit) := fun (a0, a1, a2, a3, _) =>
 match (ilt a3 a2) with
 | true => match iterL insL_s1 many (a0, a1, a2, a3, a3, ()) with
  | none => none
  | some r => match r with
   | .inl (o0, o1, o2, o3, _) => some (.inl (o0, o1, o2, (IntKind.wrap .i64 (o3 + 1)), ()))
   | .inr _ => none
 | false => some (.inr (.inl (a0, ())))
def insL_d [Lk] : (List (List Int) × Int × Int × Unit) → Option ((List (List Int) × Unit)) := fun (a0, a1, a2, _) =>
 match iterL insL_s0 many (a0, a1, a2, (IntKind.wrap .i64 (a1 + 1)), ()) with
 | none => none
 | some r => match r with
  | .inl (o0, _) => some (o0, ())
  | .inr _ => none
def insL [Lk] := fun v => Lk.f (insL_d v)
theorem insL_eq v : insL v = insL_d v := lock_eq _
-- slices.siftDownCmpFunc[[]int]
abbrev siftL_i : Items := [(.tmp 0, .own 32 (.slice (.int .i64))), (.tmp 1, .di), (.tmp 2, .di), (.tmp 3, .di), (.tmp 4, .clo 99 [])]
abbrev siftL_o : Items := [(.obj 0, .own 32 (.slice (.int .i64)))]
abbrev siftL_r : List RS := []
abbrev siftL_i0 : Items := [(.obj 0, .own 32 (.slice (.int .i64))), (.tmp 0, .own' 0), (.tmp 2, .di), (.tmp 3, .di), (.tmp 4, .clo 99 []), (.tmp 10, .di)]
abbrev siftL_o0 : Outs := [(.exit 0, [(.obj 0, .own 32 (.slice (.int .i64)))]), (.ret, [(.obj 0, .own 32 (.slice (.int .i64)))])]
def siftL_s0 [Lk] : (List (List Int) × Int × Int × Int × Unit) → Option ((List (List Int) × Int × Int × Int × Unit) ⊕ (List (List Int) × Unit) ⊕ (List (List Int) × Unit) ⊕ Unit) := fun (a0, a1, a2, a3, _) =>
 match (ile a1 (IntKind.wrap .i64 ((IntKind.wrap .i64 (2 * a3)) + 1))) with
 | true => some (.inr (.inl (a0, ())))
 | false => match (ilt (IntKind.wrap .i64 ((IntKind.wrap .i64 ((IntKind.wrap .i64 (2 * a3)) + 1)) + 1)) a1) with
  | true => match idx a0 (IntKind.wrap .i64 (a2 + (IntKind.wrap .i64 ((IntKind.wrap .i64 (2 * a3)) + 1)))) with
   | none => none
   | some x0 => match idx a0 (IntKind.wrap .i64 ((IntKind.wrap .i64 (a2 + (IntKind.wrap .i64 ((IntKind.wrap .i64 (2 * a3)) + 1)))) + 1)) with
    | none => none
    | some x1 => match with1 ((dget a0 (dnat (IntKind.wrap .i64 (a2 + (IntKind.wrap .i64 ((IntKind.wrap .i64 (2 * a3)) + 1))))) ([] : List (Int))), (dget a0 (dnat (IntKind.wrap .i64 ((IntKind.wrap .i64 (a2 + (IntKind.wrap .i64 ((IntKind.wrap .i64 (2 * a3)) + 1)))) + 1))) ([] : List (Int))), ()) with
     | none => none
     | some (y2, _) => match (ilt y2 0) with
      | true => match idx a0 (IntKind.wrap .i64 (a2 + a3)) with
       | none => none
       | some x3 => match idx a0 (IntKind.wrap .i64 (a2 + (IntKind.wrap .i64 ((IntKind.wrap .i64 ((IntKind.wrap .i64 (2 * a3)) + 1)) + 1)))) with
        | none => none
        | some x4 => match with1 ((dget a0 (dnat (IntKind.wrap .i64 (a2 + a3))) ([] : List (Int))), (dget a0 (dnat (IntKind.wrap .i64 (a2 + (IntKind.wrap .i64 ((IntKind.wrap .i64 ((IntKind.wrap .i64 (2 * a3)) + 1)) + 1))))) ([] : List (Int))), ()) with
         | none => none
         | some (y5, _) => match (!(ilt y5 0)) with
          | true => some (.inr (.inr (.inl (a0, ()))))
          | false => match idx a0 (IntKind.wrap .i64 (a2 + (IntKind.wrap .i64 ((IntKind.wrap .i64 ((IntKind.wrap .i64 (2 * a3)) + 1)) + 1)))) with
           | none => none
           | some x6 => match idx a0 (IntKind.wrap .i64 (a2 + a3)) with
            | none => none
            | some x7 => match idx a0 (IntKind.wrap .i64 (a2 + a3)) with
             | none => none
             | some x8 => match idx (dset a0 (dnat (IntKind.wrap .i64 (a2 + a3))) (dget a0 (dnat (IntKind.wrap .i64 (a2 + (IntKind.wrap .i64 ((IntKind.wrap .i64 ((IntKind.wrap .i64 (2 * a3)) + 1)) + 1))))) ([] : List (Int)))) (IntKind.wrap .i64 (a2 + (IntKind.wrap .i64 ((IntKind.wrap .i64 ((IntKind.wrap .i64 (2 * a3)) + 1)) + 1)))) with
              | none => none
              | some x9 => some (.inl ((dset (dset a0 (dnat (IntKind.wrap .i64 (a2 + a3))) (dget a0 (dnat (IntKind.wrap .i64 (a2 + (IntKind.wrap .i64 ((IntKind.wrap .i64 ((IntKind.wrap .i64 (2 * a3)) + 1)) + 1))))) ([] : List (Int)))) (dnat (IntKind.wrap .i64 (a2 + (IntKind.wrap .i64 ((IntKind.wrap .i64 ((IntKind.wrap .i64 (2 * a3)) + 1)) + 1))))) (dget a0 (dnat (IntKind.wrap .i64 (a2 + a3))) ([] : List (Int)))), a1, a2, (IntKind.wrap .i64 ((IntKind.wrap .i64 ((IntKind.wrap .i64 (2 * a3)) + 1)) + 1)), ()))
      | false => match idx a0 (IntKind.wrap .i64 (a2 + a3)) with
       | none => none
       | some x10 => match idx a0 (IntKind.wrap .i64 (a2 + (IntKind.wrap .i64 ((IntKind.wrap .i64 (2 * a3)) + 1)))) with
        | none => none
        | some x11 => match with1 ((dget a0 (dnat (IntKind.wrap .i64 (a2 + a3))) ([] : List (Int))), (dget a0 (dnat (IntKind.wrap .i64 (a2 + (IntKind.wrap .i64 ((IntKind.wrap .i64 (2 * a3)) + 1))))) ([] : List (Int))), ()) with
         | none => none
         | some (y12, _) => match (!(ilt y12 0)) with
          | true => some (.inr (.inr (.inl (a0, ()))))
          | false => match idx a0 (IntKind.wrap .i64 (a2 + (IntKind.wrap .i64 ((IntKind.wrap .i64 (2 * a3)) + 1)))) with
           | none => none
           | some x13 => match idx a0 (IntKind.wrap .i64 (a2 + a3)) with
            | none => none
            | some x14 => match idx a0 (IntKind.wrap .i64 (a2 + a3)) with
             | none => none
             | some x15 => match idx (dset a0 (dnat (IntKind.wrap .i64 (a2 + a3))) (dget a0 (dnat (IntKind.wrap .i64 (a2 + (IntKind.wrap .i64 ((IntKind.wrap .i64 (2 * a3)) + 1))))) ([] : List (Int)))) (IntKind.wrap .i64 (a2 + (IntKind.wrap .i64 ((IntKind.wrap .i64 (2 * a3)) + 1)))) with
              | none => none
              | some x16 => some (.inl ((dset (dset a0 (dnat (IntKind.wrap .i64 (a2 + a3))) (dget a0 (dnat (IntKind.wrap .i64 (a2 + (IntKind.wrap .i64 ((IntKind.wrap .i64 (2 * a3)) + 1))))) ([] : List (Int)))) (dnat (IntKind.wrap .i64 (a2 + (IntKind.wrap .i64 ((IntKind.wrap .i64 (2 * a3)) + 1))))) (dget a0 (dnat (IntKind.wrap .i64 (a2 + a3))) ([] : List (Int)))), a1, a2, (IntKind.wrap .i64 ((IntKind.wrap .i64 (2 * a3)) + 1)), ()))
  | false => match idx a0 (IntKind.wrap .i64 (a2 + a3)) with
   | none => none
   | some x17 => match idx a0 (IntKind.wrap .i64 (a2 + (IntKind.wrap .i64 ((IntKind.wrap .i64 (2 * a3)) + 1)))) with
    | none => none
    | some x18 => match with1 ((dget a0 (dnat (IntKind.wrap .i64 (a2 + a3))) ([] : List (Int))), (dget a0 (dnat (IntKind.wrap .i64 (a2 + (IntKind.wrap .i64 ((IntKind.wrap .i64 (2 * a3)) + 1))))) ([] : List (Int))), ()) with
     | none => none
     | some (y19, _) => match (!(ilt y19 0)) with
      | true => some (.inr (.inr (.inl (a0, ()))))
      | false => match idx a0 (IntKind.wrap .i64 (a2 + (IntKind.wrap .i64 ((IntKind.wrap .i64 (2 * a3)) + 1)))) with
       | none => none
       | some x20 => match idx a0 (IntKind.wrap .i64 (a2 + a3)) with
        | none => none
        | some x21 => match idx a0 (IntKind.wrap .i64 (a2 + a3)) with
         | none => none
         | some x22 => match idx (dset a0 (dnat (IntKind.wrap .i64 (a2 + a3))) (dget a0 (dnat (IntKind.wrap .i64 (a2 + (IntKind.wrap .i64 ((IntKind.wrap .i64 (2 * a3)) + 1))))) ([] : List (Int)))) (IntKind.wrap .i64 (a2 + (IntKind.wrap .i64 ((IntKind.wrap .i64 (2 * a3)) + 1)))) with
          | none => none
          | some x23 => some (.inl ((dset (dset a0 (dnat (IntKind.wrap .i64 (a2 + a3))) (dget a0 (dnat (IntKind.wrap .i64 (a2 + (IntKind.wrap .i64 ((IntKind.wrap .i64 (2 * a3)) + 1))))) ([] : List (Int)))) (dnat (IntKind.wrap .i64 (a2 + (IntKind.wrap .i64 ((IntKind.wrap .i64 (2 * a3)) + 1))))) (dget a0 (dnat (IntKind.wrap .i64 (a2 + a3))) ([] : List (Int)))), a1, a2, (IntKind.wrap .i64 ((IntKind.wrap .i64 (2 * a3)) + 1)), ()))
def siftL_d [Lk] : (List (List Int) × Int × Int × Int × Unit) → Option ((List (List Int) × Unit)) := fun (a0, a1, a2, a3, _) =>
 match iterL siftL_s0 many (a0, a2, a3, a1, ()) with
 | none => none
 | some r => match r with
  | .inl (o0, _) => some (o0, ())
  | .inr r => match r with
   | .inl (o1, _) => some (o1, ())
   | .inr _ => none
def siftL [Lk] := fun v => Lk.f (siftL_d v)
theorem siftL_eq v : siftL v = siftL_d v := lock_eq _
-- slices.heapSortCmpFunc[[]int]
abbrev heapL_i : Items := [(.tmp 0, .own 32 (.slice (.int .i64))), (.tmp 1, .di), (.tmp 2, .di), (.tmp 3, .clo 99 [])]
abbrev heapL_o : Items := [(.obj 0, .own 32 (.slice (.int .i64)))]
abbrev heapL_r : List RS := []
abbrev heapL_i1 : Items := [(.obj 0, .own 32 (.slice (.int .i64))), (.tmp 0, .own' 0), (.tmp 3, .clo 99 []), (.tmp 8, .di), (.tmp 9, .di), (.tmp 12, .di)]
abbrev heapL_o1 : Outs := [(.exit 2, [(.obj 0, .own 32 (.slice (.int .i64)))])]
def heapL_s1 [Lk] : (List (List Int) × Int × Int × Int × Unit) → Option ((List (List Int) × Int × Int × Int × Unit) ⊕ (List (List Int) × Unit) ⊕ Unit) := fun (a0, a1, a2, a3, _) =>
 match (ile 0 a3) with
 | true => match idx a0 (IntKind.wrap .i64 (a1 + a3)) with
  | none => none
  | some x0 => match idx a0 a1 with
   | none => none
   | some x1 => match idx a0 a1 with
    | none => none
    | some x2 => match idx (dset a0 (dnat a1) (dget a0 (dnat (IntKind.wrap .i64 (a1 + a3))) ([] : List (Int)))) (IntKind.wrap .i64 (a1 + a3)) with
     | none => none
     | some x3 => match siftL ((dset (dset a0 (dnat a1) (dget a0 (dnat (IntKind.wrap .i64 (a1 + a3))) ([] : List (Int)))) (dnat (IntKind.wrap .i64 (a1 + a3))) (dget a0 (dnat a1) ([] : List (Int)))), a2, a3, a1, ()) with
      | none => none
      | some (y4, _) => some (.inl (y4, a1, a2, (IntKind.wrap .i64 (a3 - 1)), ()))
 | false => some (.inr (.inl (a0, ())))
abbrev heapL_i0 : Items := [(.obj 0, .own 32 (.slice (.int .i64))), (.tmp 0, .own' 0), (.tmp 3, .clo 99 []), (.tmp 8, .di), (.tmp 9, .di), (.tmp 10, .di), (.tmp 11, .di)]
abbrev heapL_o0 : Outs := [(.exit 0, [(.obj 0, .own 32 (.slice (.int .i64))), (.tmp 0, .own' 0), (.tmp 3, .clo 99 []), (.tmp 8, .di), (.tmp 9, .di), (.tmp 10, .di)])]
def heapL_s0 [Lk] : (List (List Int) × Int × Int × Int × Int × Unit) → Option ((List (List Int) × Int × Int × Int × Int × Unit) ⊕ (List (List Int) × Int × Int × Int × Unit) ⊕ Unit) := fun (a0, a1, a2, a3, a4, _) =>
 match (ile 0 a4) with
 | true => match siftL (a0, a4, a3, a1, ()) with
  | none => none
  | some (y0, _) => some (.inl (y0, a1, a2, a3, (IntKind.wrap .i64 (a4 - 1)), ()))
 | false => some (.inr (.inl (a0, a1, a2, a3, ())))
def heapL_d [Lk] : (List (List Int) × Int × Int × Unit) → Option ((List (List Int) × Unit)) := fun (a0, a1, a2, _) =>
 match quo? .i64 (IntKind.wrap .i64 ((IntKind.wrap .i64 (a2 - a1)) - 1)) 2 with
 | none => none
 | some x0 => match iterL heapL_s0 many (a0, a1, 0, (IntKind.wrap .i64 (a2 - a1)), x0, ()) with
  | none => none
  | some r => match r with
   | .inl (o1, o2, o3, o4, _) => match iterL heapL_s1 many (o1, o2, o3, (IntKind.wrap .i64 (o4 - 1)), ()) with
    | none => none
    | some r => match r with
     | .inl (o5, _) => some (o5, ())
     | .inr _ => none
   | .inr _ => none
def heapL [Lk] := fun v => Lk.f (heapL_d v)
theorem heapL_eq v : heapL v = heapL_d v := lock_eq _
-- slices.breakPatternsCmpFunc[[]int]
abbrev breakL_i : Items := [(.tmp 0, .own 32 (.slice (.int .i64))), (.tmp 1, .di), (.tmp 2, .di), (.tmp 3, .clo 99 [])]
abbrev breakL_o : Items := [(.obj 0, .own 32 (.slice (.int .i64)))]
abbrev breakL_r : List RS := []
abbrev breakL_i0 : Items := [(.obj 0, .own 32 (.slice (.int .i64))), (.tmp 0, .own' 0), (.tmp 1, .di), (.tmp 8, .di), (.tmp 9, .box 1), (.cell 1 0, .dat (.int .u64)), (.tmp 10, .dat (.int .u64)), (.tmp 11, .di)]
abbrev breakL_o0 : Outs := [(.exit 0, [(.obj 0, .own 32 (.slice (.int .i64)))])]
def breakL_s0 [Lk] : (List (List Int) × Int × Int × Int × Int × Int × Unit) → Option ((List (List Int) × Int × Int × Int × Int × Int × Unit) ⊕ (List (List Int) × Unit) ⊕ Unit) := fun (a0, a1, a2, a3, a4, a5, _) =>
 match quo? .i64 a2 4 with
 | none => none
 | some x0 => match (ile a5 (IntKind.wrap .i64 ((IntKind.wrap .i64 (a1 + (IntKind.wrap .i64 (x0 * 2)))) + 1))) with
  | true => match xorNext (a3, ()) with
   | none => none
   | some (y1, y2, _) => match (ile a2 (IntKind.wrap .i64 (IntKind.wrap .u64 ((BitVec.ofInt (IntKind.bits .u64) y2 &&& BitVec.ofInt (IntKind.bits .u64) (IntKind.wrap .u64 (a4 - 1))).toNat)))) with
    | true => match idx a0 (IntKind.wrap .i64 (a1 + (IntKind.wrap .i64 ((IntKind.wrap .i64 (IntKind.wrap .u64 ((BitVec.ofInt (IntKind.bits .u64) y2 &&& BitVec.ofInt (IntKind.bits .u64) (IntKind.wrap .u64 (a4 - 1))).toNat))) - a2)))) with
     | none => none
     | some x3 => match idx a0 a5 with
      | none => none
      | some x4 => match idx a0 a5 with
       | none => none
       | some x5 => match idx (dset a0 (dnat a5) (dget a0 (dnat (IntKind.wrap .i64 (a1 + (IntKind.wrap .i64 ((IntKind.wrap .i64 (IntKind.wrap .u64 ((BitVec.ofInt (IntKind.bits .u64) y2 &&& BitVec.ofInt (IntKind.bits .u64) (IntKind.wrap .u64 (a4 - 1))).toNat))) - a2))))) ([] : List (Int)))) (IntKind.wrap .i64 (a1 + (IntKind.wrap .i64 ((IntKind.wrap .i64 (IntKind.wrap .u64 ((BitVec.ofInt (IntKind.bits .u64) y2 &&& BitVec.ofInt (IntKind.bits .u64) (IntKind.wrap .u64 (a4 - 1))).toNat))) - a2)))) with
        | none => none
        | some x6 => some (.inl ((dset (dset a0 (dnat a5) (dget a0 (dnat (IntKind.wrap .i64 (a1 + (IntKind.wrap .i64 ((IntKind.wrap .i64 (IntKind.wrap .u64 ((BitVec.ofInt (IntKind.bits .u64) y2 &&& BitVec.ofInt (IntKind.bits .u64) (IntKind.wrap .u64 (a4 - 1))).toNat))) - a2))))) ([] : List (Int)))) (dnat (IntKind.wrap .i64 (a1 + (IntKind.wrap .i64 ((IntKind.wrap .i64 (IntKind.wrap .u64 ((BitVec.ofInt (IntKind.bits .u64) y2 &&& BitVec.ofInt (IntKind.bits .u64) (IntKind.wrap .u64 (a4 - 1))).toNat))) - a2))))) (dget a0 (dnat a5) ([] : List (Int)))), a1, a2, y1, a4, (IntKind.wrap .i64 (a5 + 1)), ()))
    | false => match idx a0 (IntKind.wrap .i64 (a1 + (IntKind.wrap .i64 (IntKind.wrap .u64 ((BitVec.ofInt (IntKind.bits .u64) y2 &&& BitVec.ofInt (IntKind.bits .u64) (IntKind.wrap .u64 (a4 - 1))).toNat))))) with
     | none => none
     | some x7 => match idx a0 a5 with
      | none => none
      | some x8 => match idx a0 a5 with
       | none => none
       | some x9 => match idx (dset a0 (dnat a5) (dget a0 (dnat (IntKind.wrap .i64 (a1 + (IntKind.wrap .i64 (IntKind.wrap .u64 ((BitVec.ofInt (IntKind.bits .u64) y2 &&& BitVec.ofInt (IntKind.bits .u64) (IntKind.wrap .u64 (a4 - 1))).toNat)))))) ([] : List (Int)))) (IntKind.wrap .i64 (a1 + (IntKind.wrap .i64 (IntKind.wrap .u64 ((BitVec.ofInt (IntKind.bits .u64) y2 &&& BitVec.ofInt (IntKind.bits .u64) (IntKind.wrap .u64 (a4 - 1))).toNat))))) with
        | none => none
        | some x10 => some (.inl ((dset (dset a0 (dnat a5) (dget a0 (dnat (IntKind.wrap .i64 (a1 + (IntKind.wrap .i64 (IntKind.wrap .u64 ((BitVec.ofInt (IntKind.bits .u64) y2 &&& BitVec.ofInt (IntKind.bits .u64) (IntKind.wrap .u64 (a4 - 1))).toNat)))))) ([] : List (Int)))) (dnat (IntKind.wrap .i64 (a1 + (IntKind.wrap .i64 (IntKind.wrap .u64 ((BitVec.ofInt (IntKind.bits .u64) y2 &&& BitVec.ofInt (IntKind.bits .u64) (IntKind.wrap .u64 (a4 - 1))).toNat)))))) (dget a0 (dnat a5) ([] : List (Int)))), a1, a2, y1, a4, (IntKind.wrap .i64 (a5 + 1)), ()))
  | false => some (.inr (.inl (a0, ())))
def breakL_d [Lk] : (List (List Int) × Int × Int × Unit) → Option ((List (List Int) × Unit)) := fun (a0, a1, a2, _) =>
 match (ile 8 (IntKind.wrap .i64 (a2 - a1))) with
 | true => match nextPow ((IntKind.wrap .i64 (a2 - a1)), ()) with
  | none => none
  | some (y0, _) => match quo? .i64 (IntKind.wrap .i64 (a2 - a1)) 4 with
   | none => none
   | some x1 => match iterL breakL_s0 many (a0, a1, (IntKind.wrap .i64 (a2 - a1)), (IntKind.wrap .u64 (IntKind.wrap .i64 (a2 - a1))), y0, (IntKind.wrap .i64 ((IntKind.wrap .i64 (a1 + (IntKind.wrap .i64 (x1 * 2)))) - 1)), ()) with
    | none => none
    | some r => match r with
     | .inl (o2, _) => some (o2, ())
     | .inr _ => none
 | false => some (a0, ())
def breakL [Lk] := fun v => Lk.f (breakL_d v)
theorem breakL_eq v : breakL v = breakL_d v := lock_eq _
-- slices.order2CmpFunc[[]int]
abbrev order2L_i : Items := [(.tmp 0, .own 32 (.slice (.int .i64))), (.tmp 1, .di), (.tmp 2, .di), (.tmp 3, .box 1), (.cell 1 0, .di), (.tmp 4, .clo 99 [])]
abbrev order2L_o : Items := [(.obj 0, .own 32 (.slice (.int .i64))), (.obj 1, .box 1), (.cell 1 0, .di), (.tmp 0, .di), (.tmp 1, .di)]
abbrev order2L_r : List RS := [.one, .one]
def order2L_d [Lk] : (List (List Int) × Int × Int × Int × Unit) → Option ((List (List Int) × Int × Int × Int × Unit)) := fun (a0, a1, a2, a3, _) =>
 match idx a0 a2 with
 | none => none
 | some x0 => match idx a0 a1 with
  | none => none
  | some x1 => match with1 ((dget a0 (dnat a2) ([] : List (Int))), (dget a0 (dnat a1) ([] : List (Int))), ()) with
   | none => none
   | some (y2, _) => match (ilt y2 0) with
    | true => some (a0, (IntKind.wrap .i64 (a3 + 1)), a2, a1, ())
    | false => some (a0, a3, a1, a2, ())
def order2L [Lk] := fun v => Lk.f (order2L_d v)
theorem order2L_eq v : order2L v = order2L_d v := lock_eq _
-- slices.medianCmpFunc[[]int]
abbrev medianL_i : Items := [(.tmp 0, .own 32 (.slice (.int .i64))), (.tmp 1, .di), (.tmp 2, .di), (.tmp 3, .di), (.tmp 4, .box 1), (.cell 1 0, .di), (.tmp 5, .clo 99 [])]
abbrev medianL_o : Items := [(.obj 0, .own 32 (.slice (.int .i64))), (.obj 1, .box 1), (.cell 1 0, .di), (.tmp 0, .di)]
abbrev medianL_r : List RS := [.one]
def medianL_d [Lk] : (List (List Int) × Int × Int × Int × Int × Unit) → Option ((List (List Int) × Int × Int × Unit)) := fun (a0, a1, a2, a3, a4, _) =>
 match order2L (a0, a1, a2, a4, ()) with
 | none => none
 | some (y0, y1, y2, y3, _) => match order2L (y0, y3, a3, y1, ()) with
  | none => none
  | some (y4, y5, y6, y7, _) => match order2L (y4, y2, y6, y5, ()) with
   | none => none
   | some (y8, y9, y10, y11, _) => some (y8, y9, y11, ())
def medianL [Lk] := fun v => Lk.f (medianL_d v)
theorem medianL_eq v : medianL v = medianL_d v := lock_eq _
-- slices.medianAdjacentCmpFunc[[]int]
abbrev medAdjL_i : Items := [(.tmp 0, .own 32 (.slice (.int .i64))), (.tmp 1, .di), (.tmp 2, .box 1), (.cell 1 0, .di), (.tmp 3, .clo 99 [])]
abbrev medAdjL_o : Items := [(.obj 0, .own 32 (.slice (.int .i64))), (.obj 1, .box 1), (.cell 1 0, .di), (.tmp 0, .di)]
abbrev medAdjL_r : List RS := [.one]
def medAdjL_d [Lk] : (List (List Int) × Int × Int × Unit) → Option ((List (List Int) × Int × Int × Unit)) := fun (a0, a1, a2, _) =>
 match medianL (a0, (IntKind.wrap .i64 (a1 - 1)), a1, (IntKind.wrap .i64 (a1 + 1)), a2, ()) with
 | none => none
 | some (y0, y1, y2, _) => some (y0, y1, y2, ())
def medAdjL [Lk] := fun v => Lk.f (medAdjL_d v)
theorem medAdjL_eq v : medAdjL v = medAdjL_d v := lock_eq _
-- slices.choosePivotCmpFunc[[]int]
abbrev pivotL_i : Items := [(.tmp 0, .own 32 (.slice (.int .i64))), (.tmp 1, .di), (.tmp 2, .di), (.tmp 3, .clo 99 [])]
abbrev pivotL_o : Items := [(.obj 0, .own 32 (.slice (.int .i64))), (.tmp 0, .di), (.tmp 1, .di)]
abbrev pivotL_r : List RS := [.one, .one]
def pivotL_d [Lk] : (List (List Int) × Int × Int × Unit) → Option ((List (List Int) × Int × Int × Unit)) := fun (a0, a1, a2, _) =>
 match quo? .i64 (IntKind.wrap .i64 (a2 - a1)) 4 with
 | none => none
 | some x0 => match quo? .i64 (IntKind.wrap .i64 (a2 - a1)) 4 with
  | none => none
  | some x1 => match quo? .i64 (IntKind.wrap .i64 (a2 - a1)) 4 with
   | none => none
   | some x2 => match (ile 8 (IntKind.wrap .i64 (a2 - a1))) with
    | true => match (ile 50 (IntKind.wrap .i64 (a2 - a1))) with
     | true => match medAdjL (a0, (IntKind.wrap .i64 (a1 + (IntKind.wrap .i64 (x0 * 1)))), 0, ()) with
      | none => none
      | some (y3, y4, y5, _) => match medAdjL (y3, (IntKind.wrap .i64 (a1 + (IntKind.wrap .i64 (x1 * 2)))), y4, ()) with
       | none => none
       | some (y6, y7, y8, _) => match medAdjL (y6, (IntKind.wrap .i64 (a1 + (IntKind.wrap .i64 (x2 * 3)))), y7, ()) with
        | none => none
        | some (y9, y10, y11, _) => match medianL (y9, y5, y8, y11, y10, ()) with
         | none => none
         | some (y12, y13, y14, _) => match (ieq y13 0) with
          | true => some (y12, y14, 1, ())
          | false => match (ieq y13 12) with
           | true => some (y12, y14, 2, ())
           | false => some (y12, y14, 0, ())
     | false => match medianL (a0, (IntKind.wrap .i64 (a1 + (IntKind.wrap .i64 (x0 * 1)))), (IntKind.wrap .i64 (a1 + (IntKind.wrap .i64 (x1 * 2)))), (IntKind.wrap .i64 (a1 + (IntKind.wrap .i64 (x2 * 3)))), 0, ()) with
      | none => none
      | some (y15, y16, y17, _) => match (ieq y16 0) with
       | true => some (y15, y17, 1, ())
       | false => match (ieq y16 12) with
        | true => some (y15, y17, 2, ())
        | false => some (y15, y17, 0, ())
    | false => match (ieq 0 0) with
     | true => some (a0, (IntKind.wrap .i64 (a1 + (IntKind.wrap .i64 (x1 * 2)))), 1, ())
     | false => match (ieq 0 12) with
      | true => some (a0, (IntKind.wrap .i64 (a1 + (IntKind.wrap .i64 (x1 * 2)))), 2, ())
      | false => some (a0, (IntKind.wrap .i64 (a1 + (IntKind.wrap .i64 (x1 * 2)))), 0, ())
def pivotL [Lk] := fun v => Lk.f (pivotL_d v)
theorem pivotL_eq v : pivotL v = pivotL_d v := lock_eq _
-- slices.reverseRangeCmpFunc[[]int]
abbrev revL_i : Items := [(.tmp 0, .own 32 (.slice (.int .i64))), (.tmp 1, .di), (.tmp 2, .di), (.tmp 3, .clo 99 [])]
abbrev revL_o : Items := [(.obj 0, .own 32 (.slice (.int .i64)))]
abbrev revL_r : List RS := []
abbrev revL_i0 : Items := [(.obj 0, .own 32 (.slice (.int .i64))), (.tmp 0, .own' 0), (.tmp 8, .di), (.tmp 9, .di)]
abbrev revL_o0 : Outs := [(.exit 0, [(.obj 0, .own 32 (.slice (.int .i64)))])]
def revL_s0 [Lk] : (List (List Int) × Int × Int × Unit) → Option ((List (List Int) × Int × Int × Unit) ⊕ (List (List Int) × Unit) ⊕ Unit) := fun (a0, a1, a2, _) =>
 match (ilt a1 a2) with
 | true => match idx a0 a2 with
  | none => none
  | some x0 => match idx a0 a1 with
   | none => none
   | some x1 => match idx a0 a1 with
    | none => none
    | some x2 => match idx (dset a0 (dnat a1) (dget a0 (dnat a2) ([] : List (Int)))) a2 with
     | none => none
     | some x3 => some (.inl ((dset (dset a0 (dnat a1) (dget a0 (dnat a2) ([] : List (Int)))) (dnat a2) (dget a0 (dnat a1) ([] : List (Int)))), (IntKind.wrap .i64 (a1 + 1)), (IntKind.wrap .i64 (a2 - 1)), ()))
 | false => some (.inr (.inl (a0, ())))
def revL_d [Lk] : (List (List Int) × Int × Int × Unit) → Option ((List (List Int) × Unit)) := fun (a0, a1, a2, _) =>
 match iterL revL_s0 many (a0, a1, (IntKind.wrap .i64 (a2 - 1)), ()) with
 | none => none
 | some r => match r with
  | .inl (o0, _) => some (o0, ())
  | .inr _ => none
def revL [Lk] := fun v => Lk.f (revL_d v)
theorem revL_eq v : revL v = revL_d v := lock_eq _
end
end Go.Pev
end
section
namespace Go.Pev
set_option maxRecDepth 100000
noncomputable section
attribute [local irreducible] fitsR fitsIR idxR sublR iltR ileR ieqR quoR remR shlR shrR cloneR iterO many IntKind.wrap dlen dset dget dapp dtake dcut drep dnat dclear imin imax lookupM storeM
-- slices.partialInsertionSortCmpFunc[[]int]
abbrev partInsL_i : Items := [(.tmp 0, .own 32 (.slice (.int .i64))), (.tmp 1, .di), (.tmp 2, .di), (.tmp 3, .clo 99 [])]
abbrev partInsL_o : Items := [(.obj 0, .own 32 (.slice (.int .i64))), (.tmp 0, .dat .bool)]
abbrev partInsL_r : List RS := [.one]
abbrev partInsL_i3 : Items := [(.obj 0, .own 32 (.slice (.int .i64))), (.tmp 0, .own' 0), (.tmp 1, .di), (.tmp 2, .di), (.tmp 3, .clo 99 []), (.tmp 9, .di), (.tmp 10, .di), (.tmp 12, .di)]
abbrev partInsL_o3 : Outs := [(.exit 6, [(.obj 0, .own 32 (.slice (.int .i64))), (.tmp 0, .own' 0), (.tmp 1, .di), (.tmp 2, .di), (.tmp 3, .clo 99 []), (.tmp 9, .di), (.tmp 10, .di)])]
def partInsL_s3 [Lk] : (List (List Int) × Int × Int × Int × Int × Int × Unit) → Option ((List (List Int) × Int × Int × Int × Int × Int × Unit) ⊕ (List (List Int) × Int × Int × Int × Int × Unit) ⊕ Unit) := fun (a0, a1, a2, a3, a4, a5, _) =>
 match (ilt a5 a2) with
 | true => match idx a0 a5 with
  | none => none
  | some x0 => match idx a0 (IntKind.wrap .i64 (a5 - 1)) with
   | none => none
   | some x1 => match with1 ((dget a0 (dnat a5) ([] : List (Int))), (dget a0 (dnat (IntKind.wrap .i64 (a5 - 1))) ([] : List (Int))), ()) with
    | none => none
    | some (y2, _) => match (!(ilt y2 0)) with
     | true => some (.inr (.inl (a0, a1, a2, a3, a4, ())))
     | false => match idx a0 (IntKind.wrap .i64 (a5 - 1)) with
      | none => none
      | some x3 => match idx a0 a5 with
       | none => none
       | some x4 => match idx a0 a5 with
        | none => none
        | some x5 => match idx (dset a0 (dnat a5) (dget a0 (dnat (IntKind.wrap .i64 (a5 - 1))) ([] : List (Int)))) (IntKind.wrap .i64 (a5 - 1)) with
         | none => none
         | some x6 => some (.inl ((dset (dset a0 (dnat a5) (dget a0 (dnat (IntKind.wrap .i64 (a5 - 1))) ([] : List (Int)))) (dnat (IntKind.wrap .i64 (a5 - 1))) (dget a0 (dnat a5) ([] : List (Int)))), a1, a2, a3, a4, (IntKind.wrap .i64 (a5 + 1)), ()))
 | false => some (.inr (.inl (a0, a1, a2, a3, a4, ())))
abbrev partInsL_i2 : Items := [(.obj 0, .own 32 (.slice (.int .i64))), (.tmp 0, .own' 0), (.tmp 1, .di), (.tmp 2, .di), (.tmp 3, .clo 99 []), (.tmp 9, .di), (.tmp 10, .di), (.tmp 11, .di)]
abbrev partInsL_o2 : Outs := [(.exit 4, [(.obj 0, .own 32 (.slice (.int .i64))), (.tmp 0, .own' 0), (.tmp 1, .di), (.tmp 2, .di), (.tmp 3, .clo 99 []), (.tmp 9, .di), (.tmp 10, .di)])]
def partInsL_s2 [Lk] : (List (List Int) × Int × Int × Int × Int × Int × Unit) → Option ((List (List Int) × Int × Int × Int × Int × Int × Unit) ⊕ (List (List Int) × Int × Int × Int × Int × Unit) ⊕ Unit) := fun (a0, a1, a2, a3, a4, a5, _) =>
 match (ile 1 a5) with
 | true => match idx a0 a5 with
  | none => none
  | some x0 => match idx a0 (IntKind.wrap .i64 (a5 - 1)) with
   | none => none
   | some x1 => match with1 ((dget a0 (dnat a5) ([] : List (Int))), (dget a0 (dnat (IntKind.wrap .i64 (a5 - 1))) ([] : List (Int))), ()) with
    | none => none
    | some (y2, _) => match (!(ilt y2 0)) with
     | true => some (.inr (.inl (a0, a1, a2, a3, a4, ())))
     | false => match idx a0 (IntKind.wrap .i64 (a5 - 1)) with
      | none => none
      | some x3 => match idx a0 a5 with
       | none => none
       | some x4 => match idx a0 a5 with
        | none => none
        | some x5 => match idx (dset a0 (dnat a5) (dget a0 (dnat (IntKind.wrap .i64 (a5 - 1))) ([] : List (Int)))) (IntKind.wrap .i64 (a5 - 1)) with
         | none => none
         | some x6 => some (.inl ((dset (dset a0 (dnat a5) (dget a0 (dnat (IntKind.wrap .i64 (a5 - 1))) ([] : List (Int)))) (dnat (IntKind.wrap .i64 (a5 - 1))) (dget a0 (dnat a5) ([] : List (Int)))), a1, a2, a3, a4, (IntKind.wrap .i64 (a5 - 1)), ()))
 | false => some (.inr (.inl (a0, a1, a2, a3, a4, ())))
abbrev partInsL_i1 : Items := [(.obj 0, .own 32 (.slice (.int .i64))), (.tmp 0, .own' 0), (.tmp 1, .di), (.tmp 2, .di), (.tmp 3, .clo 99 []), (.tmp 9, .di), (.tmp 10, .di)]
abbrev partInsL_o1 : Outs := [(.exit 2, [(.obj 0, .own 32 (.slice (.int .i64))), (.tmp 0, .own' 0), (.tmp 1, .di), (.tmp 2, .di), (.tmp 3, .clo 99 []), (.tmp 9, .di), (.tmp 10, .di)])]
def partInsL_s1 [Lk] : (List (List Int) × Int × Int × Int × Int × Unit) → Option ((List (List Int) × Int × Int × Int × Int × Unit) ⊕ (List (List Int) × Int × Int × Int × Int × Unit) ⊕ Unit) := fun (a0, a1, a2, a3, a4, _) =>
 match (ilt a3 a2) with
 | true => match idx a0 a3 with
  | none => none
  | some x0 => match idx a0 (IntKind.wrap .i64 (a3 - 1)) with
   | none => none
   | some x1 => match with1 ((dget a0 (dnat a3) ([] : List (Int))), (dget a0 (dnat (IntKind.wrap .i64 (a3 - 1))) ([] : List (Int))), ()) with
    | none => none
    | some (y2, _) => match (!(ilt y2 0)) with
     | true => some (.inl (a0, a1, a2, (IntKind.wrap .i64 (a3 + 1)), a4, ()))
     | false => some (.inr (.inl (a0, a1, a2, a3, a4, ())))
 | false => some (.inr (.inl (a0, a1, a2, a3, a4, ())))
abbrev partInsL_i0 : Items := [(.obj 0, .own 32 (.slice (.int .i64))), (.tmp 0, .own' 0), (.tmp 1, .di), (.tmp 2, .di), (.tmp 3, .clo 99 []), (.tmp 9, .di), (.tmp 10, .di)]
abbrev partInsL_o0 : Outs := [(.ret, [(.obj 0, .own 32 (.slice (.int .i64))), (.tmp 8, .dat .bool)]), (.exit 0, [(.obj 0, .own 32 (.slice (.int .i64)))])]
def partInsL_s0 [Lk] : (List (List Int) × Int × Int × Int × Int × Unit) → Option ((List (List Int) × Int × Int × Int × Int × Unit) ⊕ (List (List Int) × Bool × Unit) ⊕ (List (List Int) × Unit) ⊕ Unit) := fun (a0, a1, a2, a3, a4, _) =>
 match (ilt a4 5) with
 | true => match iterL partInsL_s1 many (a0, a1, a2, a3, a4, ()) with
  | none => none
  | some r => match r with
   | .inl (o0, o1, o2, o3, o4, _) => match (ieq o3 o2) with
    | true => some (.inr (.inl (o0, true, ())))
    | false => match (ilt (IntKind.wrap .i64 (o2 - o1)) 50) with
     | true => some (.inr (.inl (o0, false, ())))
     | false => match idx o0 (IntKind.wrap .i64 (o3 - 1)) with
      | none => none
      | some x5 => match idx o0 o3 with
       | none => none
       | some x6 => match idx o0 o3 with
        | none => none
        | some x7 => match idx (dset o0 (dnat o3) (dget o0 (dnat (IntKind.wrap .i64 (o3 - 1))) ([] : List (Int)))) (IntKind.wrap .i64 (o3 - 1)) with
         | none => none
         | some x8 => match (ile 2 (IntKind.wrap .i64 (o3 - o1))) with
          | true => match iterL partInsL_s2 many ((dset (dset o0 (dnat o3) (dget o0 (dnat (IntKind.wrap .i64 (o3 - 1))) ([] : List (Int)))) (dnat (IntKind.wrap .i64 (o3 - 1))) (dget o0 (dnat o3) ([] : List (Int)))), o1, o2, o3, o4, (IntKind.wrap .i64 (o3 - 1)), ()) with
           | none => none
           | some r => match r with
            | .inl (o9, o10, o11, o12, o13, _) => match (ile 2 (IntKind.wrap .i64 (o11 - o12))) with
             | true => match iterL partInsL_s3 many (o9, o10, o11, o12, o13, (IntKind.wrap .i64 (o12 + 1)), ()) with
              | none => none
              | some r => match r with
               | .inl (o14, o15, o16, o17, o18, _) => some (.inl (o14, o15, o16, o17, (IntKind.wrap .i64 (o18 + 1)), ()))
               | .inr _ => none
             | false => some (.inl (o9, o10, o11, o12, (IntKind.wrap .i64 (o13 + 1)), ()))
            | .inr _ => none
          | false => match (ile 2 (IntKind.wrap .i64 (o2 - o3))) with
           | true => match iterL partInsL_s3 many ((dset (dset o0 (dnat o3) (dget o0 (dnat (IntKind.wrap .i64 (o3 - 1))) ([] : List (Int)))) (dnat (IntKind.wrap .i64 (o3 - 1))) (dget o0 (dnat o3) ([] : List (Int)))), o1, o2, o3, o4, (IntKind.wrap .i64 (o3 + 1)), ()) with
            | none => none
            | some r => match r with
             | .inl (o19, o20, o21, o22, o23, _) => some (.inl (o19, o20, o21, o22, (IntKind.wrap .i64 (o23 + 1)), ()))
             | .inr _ => none
           | false => some (.inl ((dset (dset o0 (dnat o3) (dget o0 (dnat (IntKind.wrap .i64 (o3 - 1))) ([] : List (Int)))) (dnat (IntKind.wrap .i64 (o3 - 1))) (dget o0 (dnat o3) ([] : List (Int)))), o1, o2, o3, (IntKind.wrap .i64 (o4 + 1)), ()))
   | .inr _ => none
 | false => some (.inr (.inr (.inl (a0, ()))))
def partInsL_d [Lk] : (List (List Int) × Int × Int × Unit) → Option ((List (List Int) × Bool × Unit)) := fun (a0, a1, a2, _) =>
 match iterL partInsL_s0 many (a0, a1, a2, (IntKind.wrap .i64 (a1 + 1)), 0, ()) with
 | none => none
 | some r => match r with
  | .inl (o0, o1, _) => some (o0, o1, ())
  | .inr r => match r with
   | .inl (o2, _) => some (o2, false, ())
   | .inr _ => none
def partInsL [Lk] := fun v => Lk.f (partInsL_d v)
theorem partInsL_eq v : partInsL v = partInsL_d v := lock_eq _
-- slices.partitionEqualCmpFunc[[]int]
abbrev partEqL_i : Items := [(.tmp 0, .own 32 (.slice (.int .i64))), (.tmp 1, .di), (.tmp 2, .di), (.tmp 3, .di), (.tmp 4, .clo 99 [])]
abbrev partEqL_o : Items := [(.obj 0, .own 32 (.slice (.int .i64))), (.tmp 0, .di)]
abbrev partEqL_r : List RS := [.one]
abbrev partEqL_i2 : Items := [(.obj 0, .own 32 (.slice (.int .i64))), (.tmp 0, .own' 0), (.tmp 1, .di), (.tmp 4, .clo 99 []), (.tmp 11, .di), (.tmp 12, .di)]
abbrev partEqL_o2 : Outs := [(.exit 4, [(.obj 0, .own 32 (.slice (.int .i64))), (.tmp 0, .own' 0), (.tmp 1, .di), (.tmp 4, .clo 99 []), (.tmp 11, .di), (.tmp 12, .di)])]
def partEqL_s2 [Lk] : (List (List Int) × Int × Int × Int × Unit) → Option ((List (List Int) × Int × Int × Int × Unit) ⊕ (List (List Int) × Int × Int × Int × Unit) ⊕ Unit) := fun (a0, a1, a2, a3, _) =>
 match (ile a2 a3) with
 | true => match idx a0 a1 with
  | none => none
  | some x0 => match idx a0 a3 with
   | none => none
   | some x1 => match with1 ((dget a0 (dnat a1) ([] : List (Int))), (dget a0 (dnat a3) ([] : List (Int))), ()) with
    | none => none
    | some (y2, _) => match (ilt y2 0) with
     | true => some (.inl (a0, a1, a2, (IntKind.wrap .i64 (a3 - 1)), ()))
     | false => some (.inr (.inl (a0, a1, a2, a3, ())))
 | false => some (.inr (.inl (a0, a1, a2, a3, ())))
abbrev partEqL_i1 : Items := [(.obj 0, .own 32 (.slice (.int .i64))), (.tmp 0, .own' 0), (.tmp 1, .di), (.tmp 4, .clo 99 []), (.tmp 11, .di), (.tmp 12, .di)]
abbrev partEqL_o1 : Outs := [(.exit 2, [(.obj 0, .own 32 (.slice (.int .i64))), (.tmp 0, .own' 0), (.tmp 1, .di), (.tmp 4, .clo 99 []), (.tmp 11, .di), (.tmp 12, .di)])]
def partEqL_s1 [Lk] : (List (List Int) × Int × Int × Int × Unit) → Option ((List (List Int) × Int × Int × Int × Unit) ⊕ (List (List Int) × Int × Int × Int × Unit) ⊕ Unit) := fun (a0, a1, a2, a3, _) =>
 match (ile a2 a3) with
 | true => match idx a0 a1 with
  | none => none
  | some x0 => match idx a0 a2 with
   | none => none
   | some x1 => match with1 ((dget a0 (dnat a1) ([] : List (Int))), (dget a0 (dnat a2) ([] : List (Int))), ()) with
    | none => none
    | some (y2, _) => match (!(ilt y2 0)) with
     | true => some (.inl (a0, a1, (IntKind.wrap .i64 (a2 + 1)), a3, ()))
     | false => some (.inr (.inl (a0, a1, a2, a3, ())))
 | false => some (.inr (.inl (a0, a1, a2, a3, ())))
abbrev partEqL_i0 : Items := [(.obj 0, .own 32 (.slice (.int .i64))), (.tmp 0, .own' 0), (.tmp 1, .di), (.tmp 4, .clo 99 []), (.tmp 11, .di), (.tmp 12, .di)]
abbrev partEqL_o0 : Outs := [(.exit 0, [(.obj 0, .own 32 (.slice (.int .i64))), (.tmp 11, .di)])]
def partEqL_s0 [Lk] : (List (List Int) × Int × Int × Int × Unit) → Option ((List (List Int) × Int × Int × Int × Unit) ⊕ (List (List Int) × Int × Unit) ⊕ Unit) := fun (a0, a1, a2, a3, _) =>
 match iterL partEqL_s1 many (a0, a1, a2, a3, ()) with
 | none => none
 | some r => match r with
  | .inl (o0, o1, o2, o3, _) => match iterL partEqL_s2 many (o0, o1, o2, o3, ()) with
   | none => none
   | some r => match r with
    | .inl (o4, o5, o6, o7, _) => match (ilt o7 o6) with
     | true => some (.inr (.inl (o4, o6, ())))
     | false => match idx o4 o7 with
      | none => none
      | some x8 => match idx o4 o6 with
       | none => none
       | some x9 => match idx o4 o6 with
        | none => none
        | some x10 => match idx (dset o4 (dnat o6) (dget o4 (dnat o7) ([] : List (Int)))) o7 with
         | none => none
         | some x11 => some (.inl ((dset (dset o4 (dnat o6) (dget o4 (dnat o7) ([] : List (Int)))) (dnat o7) (dget o4 (dnat o6) ([] : List (Int)))), o5, (IntKind.wrap .i64 (o6 + 1)), (IntKind.wrap .i64 (o7 - 1)), ()))
    | .inr _ => none
  | .inr _ => none
def partEqL_d [Lk] : (List (List Int) × Int × Int × Int × Unit) → Option ((List (List Int) × Int × Unit)) := fun (a0, a1, a2, a3, _) =>
 match idx a0 a3 with
 | none => none
 | some x0 => match idx a0 a1 with
  | none => none
  | some x1 => match idx a0 a1 with
   | none => none
   | some x2 => match idx (dset a0 (dnat a1) (dget a0 (dnat a3) ([] : List (Int)))) a3 with
    | none => none
    | some x3 => match iterL partEqL_s0 many ((dset (dset a0 (dnat a1) (dget a0 (dnat a3) ([] : List (Int)))) (dnat a3) (dget a0 (dnat a1) ([] : List (Int)))), a1, (IntKind.wrap .i64 (a1 + 1)), (IntKind.wrap .i64 (a2 - 1)), ()) with
     | none => none
     | some r => match r with
      | .inl (o4, o5, _) => some (o4, o5, ())
      | .inr _ => none
def partEqL [Lk] := fun v => Lk.f (partEqL_d v)
theorem partEqL_eq v : partEqL v = partEqL_d v := lock_eq _
-- slices.partitionCmpFunc[[]int]
abbrev partL_i : Items := [(.tmp 0, .own 32 (.slice (.int .i64))), (.tmp 1, .di), (.tmp 2, .di), (.tmp 3, .di), (.tmp 4, .clo 99 [])]
abbrev partL_o : Items := [(.obj 0, .own 32 (.slice (.int .i64))), (.tmp 0, .di), (.tmp 1, .dat .bool)]
abbrev partL_r : List RS := [.one, .one]
abbrev partL_i4 : Items := [(.obj 0, .own 32 (.slice (.int .i64))), (.tmp 0, .own' 0), (.tmp 1, .di), (.tmp 4, .clo 99 []), (.tmp 12, .di), (.tmp 13, .di)]
abbrev partL_o4 : Outs := [(.exit 8, [(.obj 0, .own 32 (.slice (.int .i64))), (.tmp 0, .own' 0), (.tmp 1, .di), (.tmp 4, .clo 99 []), (.tmp 12, .di), (.tmp 13, .di)])]
def partL_s4 [Lk] : (List (List Int) × Int × Int × Int × Unit) → Option ((List (List Int) × Int × Int × Int × Unit) ⊕ (List (List Int) × Int × Int × Int × Unit) ⊕ Unit) := fun (a0, a1, a2, a3, _) =>
 match (ile a2 a3) with
 | true => match idx a0 a3 with
  | none => none
  | some x0 => match idx a0 a1 with
   | none => none
   | some x1 => match with1 ((dget a0 (dnat a3) ([] : List (Int))), (dget a0 (dnat a1) ([] : List (Int))), ()) with
    | none => none
    | some (y2, _) => match (!(ilt y2 0)) with
     | true => some (.inl (a0, a1, a2, (IntKind.wrap .i64 (a3 - 1)), ()))
     | false => some (.inr (.inl (a0, a1, a2, a3, ())))
 | false => some (.inr (.inl (a0, a1, a2, a3, ())))
abbrev partL_i3 : Items := [(.obj 0, .own 32 (.slice (.int .i64))), (.tmp 0, .own' 0), (.tmp 1, .di), (.tmp 4, .clo 99 []), (.tmp 12, .di), (.tmp 13, .di)]
abbrev partL_o3 : Outs := [(.exit 6, [(.obj 0, .own 32 (.slice (.int .i64))), (.tmp 0, .own' 0), (.tmp 1, .di), (.tmp 4, .clo 99 []), (.tmp 12, .di), (.tmp 13, .di)])]
def partL_s3 [Lk] : (List (List Int) × Int × Int × Int × Unit) → Option ((List (List Int) × Int × Int × Int × Unit) ⊕ (List (List Int) × Int × Int × Int × Unit) ⊕ Unit) := fun (a0, a1, a2, a3, _) =>
 match (ile a2 a3) with
 | true => match idx a0 a2 with
  | none => none
  | some x0 => match idx a0 a1 with
   | none => none
   | some x1 => match with1 ((dget a0 (dnat a2) ([] : List (Int))), (dget a0 (dnat a1) ([] : List (Int))), ()) with
    | none => none
    | some (y2, _) => match (ilt y2 0) with
     | true => some (.inl (a0, a1, (IntKind.wrap .i64 (a2 + 1)), a3, ()))
     | false => some (.inr (.inl (a0, a1, a2, a3, ())))
 | false => some (.inr (.inl (a0, a1, a2, a3, ())))
abbrev partL_i2 : Items := [(.obj 0, .own 32 (.slice (.int .i64))), (.tmp 0, .own' 0), (.tmp 1, .di), (.tmp 4, .clo 99 []), (.tmp 12, .di), (.tmp 13, .di)]
abbrev partL_o2 : Outs := [(.exit 4, [(.obj 0, .own 32 (.slice (.int .i64))), (.tmp 0, .own' 0), (.tmp 1, .di), (.tmp 13, .di)])]
def partL_s2 [Lk] : (List (List Int) × Int × Int × Int × Unit) → Option ((List (List Int) × Int × Int × Int × Unit) ⊕ (List (List Int) × Int × Int × Unit) ⊕ Unit) := fun (a0, a1, a2, a3, _) =>
 match iterL partL_s3 many (a0, a1, a2, a3, ()) with
 | none => none
 | some r => match r with
  | .inl (o0, o1, o2, o3, _) => match iterL partL_s4 many (o0, o1, o2, o3, ()) with
   | none => none
   | some r => match r with
    | .inl (o4, o5, o6, o7, _) => match (ilt o7 o6) with
     | true => some (.inr (.inl (o4, o5, o7, ())))
     | false => match idx o4 o7 with
      | none => none
      | some x8 => match idx o4 o6 with
       | none => none
       | some x9 => match idx o4 o6 with
        | none => none
        | some x10 => match idx (dset o4 (dnat o6) (dget o4 (dnat o7) ([] : List (Int)))) o7 with
         | none => none
         | some x11 => some (.inl ((dset (dset o4 (dnat o6) (dget o4 (dnat o7) ([] : List (Int)))) (dnat o7) (dget o4 (dnat o6) ([] : List (Int)))), o5, (IntKind.wrap .i64 (o6 + 1)), (IntKind.wrap .i64 (o7 - 1)), ()))
    | .inr _ => none
  | .inr _ => none
abbrev partL_i1 : Items := [(.obj 0, .own 32 (.slice (.int .i64))), (.tmp 0, .own' 0), (.tmp 1, .di), (.tmp 4, .clo 99 []), (.tmp 12, .di), (.tmp 13, .di)]
abbrev partL_o1 : Outs := [(.exit 2, [(.obj 0, .own 32 (.slice (.int .i64))), (.tmp 0, .own' 0), (.tmp 1, .di), (.tmp 4, .clo 99 []), (.tmp 12, .di), (.tmp 13, .di)])]
def partL_s1 [Lk] : (List (List Int) × Int × Int × Int × Unit) → Option ((List (List Int) × Int × Int × Int × Unit) ⊕ (List (List Int) × Int × Int × Int × Unit) ⊕ Unit) := fun (a0, a1, a2, a3, _) =>
 match (ile a2 a3) with
 | true => match idx a0 a3 with
  | none => none
  | some x0 => match idx a0 a1 with
   | none => none
   | some x1 => match with1 ((dget a0 (dnat a3) ([] : List (Int))), (dget a0 (dnat a1) ([] : List (Int))), ()) with
    | none => none
    | some (y2, _) => match (!(ilt y2 0)) with
     | true => some (.inl (a0, a1, a2, (IntKind.wrap .i64 (a3 - 1)), ()))
     | false => some (.inr (.inl (a0, a1, a2, a3, ())))
 | false => some (.inr (.inl (a0, a1, a2, a3, ())))
abbrev partL_i0 : Items := [(.obj 0, .own 32 (.slice (.int .i64))), (.tmp 0, .own' 0), (.tmp 1, .di), (.tmp 4, .clo 99 []), (.tmp 12, .di), (.tmp 13, .di)]
abbrev partL_o0 : Outs := [(.exit 0, [(.obj 0, .own 32 (.slice (.int .i64))), (.tmp 0, .own' 0), (.tmp 1, .di), (.tmp 4, .clo 99 []), (.tmp 12, .di), (.tmp 13, .di)])]
def partL_s0 [Lk] : (List (List Int) × Int × Int × Int × Unit) → Option ((List (List Int) × Int × Int × Int × Unit) ⊕ (List (List Int) × Int × Int × Int × Unit) ⊕ Unit) := fun (a0, a1, a2, a3, _) =>
 match (ile a2 a3) with
 | true => match idx a0 a2 with
  | none => none
  | some x0 => match idx a0 a1 with
   | none => none
   | some x1 => match with1 ((dget a0 (dnat a2) ([] : List (Int))), (dget a0 (dnat a1) ([] : List (Int))), ()) with
    | none => none
    | some (y2, _) => match (ilt y2 0) with
     | true => some (.inl (a0, a1, (IntKind.wrap .i64 (a2 + 1)), a3, ()))
     | false => some (.inr (.inl (a0, a1, a2, a3, ())))
 | false => some (.inr (.inl (a0, a1, a2, a3, ())))
def partL_d [Lk] : (List (List Int) × Int × Int × Int × Unit) → Option ((List (List Int) × Int × Bool × Unit)) := fun (a0, a1, a2, a3, _) =>
 match idx a0 a3 with
 | none => none
 | some x0 => match idx a0 a1 with
  | none => none
  | some x1 => match idx a0 a1 with
   | none => none
   | some x2 => match idx (dset a0 (dnat a1) (dget a0 (dnat a3) ([] : List (Int)))) a3 with
    | none => none
    | some x3 => match iterL partL_s0 many ((dset (dset a0 (dnat a1) (dget a0 (dnat a3) ([] : List (Int)))) (dnat a3) (dget a0 (dnat a1) ([] : List (Int)))), a1, (IntKind.wrap .i64 (a1 + 1)), (IntKind.wrap .i64 (a2 - 1)), ()) with
     | none => none
     | some r => match r with
      | .inl (o4, o5, o6, o7, _) => match iterL partL_s1 many (o4, o5, o6, o7, ()) with
       | none => none
       | some r => match r with
        | .inl (o8, o9, o10, o11, _) => match (ilt o11 o10) with
         | true => match idx o8 o9 with
          | none => none
          | some x12 => match idx o8 o11 with
           | none => none
           | some x13 => match idx o8 o11 with
            | none => none
            | some x14 => match idx (dset o8 (dnat o11) (dget o8 (dnat o9) ([] : List (Int)))) o9 with
             | none => none
             | some x15 => some ((dset (dset o8 (dnat o11) (dget o8 (dnat o9) ([] : List (Int)))) (dnat o9) (dget o8 (dnat o11) ([] : List (Int)))), o11, true, ())
         | false => match idx o8 o11 with
          | none => none
          | some x16 => match idx o8 o10 with
           | none => none
           | some x17 => match idx o8 o10 with
            | none => none
            | some x18 => match idx (dset o8 (dnat o10) (dget o8 (dnat o11) ([] : List (Int)))) o11 with
             | none => none
             | some x19 => match iterL partL_s2 many ((dset (dset o8 (dnat o10) (dget o8 (dnat o11) ([] : List (Int)))) (dnat o11) (dget o8 (dnat o10) ([] : List (Int)))), o9, (IntKind.wrap .i64 (o10 + 1)), (IntKind.wrap .i64 (o11 - 1)), ()) with
              | none => none
              | some r => match r with
               | .inl (o20, o21, o22, _) => match idx o20 o21 with
                | none => none
                | some x23 => match idx o20 o22 with
                 | none => none
                 | some x24 => match idx o20 o22 with
                  | none => none
                  | some x25 => match idx (dset o20 (dnat o22) (dget o20 (dnat o21) ([] : List (Int)))) o21 with
                   | none => none
                   | some x26 => some ((dset (dset o20 (dnat o22) (dget o20 (dnat o21) ([] : List (Int)))) (dnat o21) (dget o20 (dnat o22) ([] : List (Int)))), o22, false, ())
               | .inr _ => none
        | .inr _ => none
      | .inr _ => none
def partL [Lk] := fun v => Lk.f (partL_d v)
theorem partL_eq v : partL v = partL_d v := lock_eq _
-- slices.pdqsortCmpFunc[[]int]
abbrev pdqL_i : Items := [(.tmp 0, .own 32 (.slice (.int .i64))), (.tmp 1, .di), (.tmp 2, .di), (.tmp 3, .di), (.tmp 4, .clo 99 [])]
abbrev pdqL_o : Items := [(.obj 0, .own 32 (.slice (.int .i64)))]
abbrev pdqL_r : List RS := []
abbrev pdqL_i0 : Items := [(.obj 0, .own 32 (.slice (.int .i64))), (.tmp 0, .own' 0), (.tmp 1, .di), (.tmp 2, .di), (.tmp 3, .di), (.tmp 4, .clo 99 []), (.tmp 10, .dat .bool), (.tmp 11, .dat .bool)]
abbrev pdqL_o0 : Outs := [(.ret, [(.obj 0, .own 32 (.slice (.int .i64)))])]
def pdqL_t [Lk] (self : (List (List Int) × Int × Int × Int × Unit) → Option ((List (List Int) × Unit))) (y7 : List (List Int)) (a1 a2 p l : Int) (a4 a5 : Bool) : Option ((List (List Int) × Int × Int × Int × Bool × Bool × Unit) ⊕ (List (List Int) × Unit) ⊕ Unit) :=
 match (ilt 0 a1) with
 | true => match idx y7 (IntKind.wrap .i64 (a1 - 1)) with
  | none => none
  | some x9 => match idx y7 p with
   | none => none
   | some x10 => match with1 ((dget y7 (dnat (IntKind.wrap .i64 (a1 - 1))) ([] : List (Int))), (dget y7 (dnat p) ([] : List (Int))), ()) with
    | none => none
    | some (y11, _) => match (!(ilt y11 0)) with
     | true => match partEqL (y7, a1, a2, p, ()) with
      | none => none
      | some (y12, y13, _) => some (.inl (y12, y13, a2, l, a4, a5, ()))
     | false => match partL (y7, a1, a2, p, ()) with
      | none => none
      | some (y14, y15, y16, _) => match quo? .i64 (IntKind.wrap .i64 (a2 - a1)) 8 with
       | none => none
       | some x17 => match (ilt (IntKind.wrap .i64 (y15 - a1)) (IntKind.wrap .i64 (a2 - y15))) with
        | true => match self (y14, a1, y15, l, ()) with
         | none => none
         | some (y18, _) => some (.inl (y18, (IntKind.wrap .i64 (y15 + 1)), a2, l, (ile x17 (IntKind.wrap .i64 (y15 - a1))), y16, ()))
        | false => match self (y14, (IntKind.wrap .i64 (y15 + 1)), a2, l, ()) with
         | none => none
         | some (y19, _) => some (.inl (y19, a1, y15, l, (ile x17 (IntKind.wrap .i64 (a2 - y15))), y16, ()))
 | false => match partL (y7, a1, a2, p, ()) with
  | none => none
  | some (y20, y21, y22, _) => match quo? .i64 (IntKind.wrap .i64 (a2 - a1)) 8 with
   | none => none
   | some x23 => match (ilt (IntKind.wrap .i64 (y21 - a1)) (IntKind.wrap .i64 (a2 - y21))) with
    | true => match self (y20, a1, y21, l, ()) with
     | none => none
     | some (y24, _) => some (.inl (y24, (IntKind.wrap .i64 (y21 + 1)), a2, l, (ile x23 (IntKind.wrap .i64 (y21 - a1))), y22, ()))
    | false => match self (y20, (IntKind.wrap .i64 (y21 + 1)), a2, l, ()) with
     | none => none
     | some (y25, _) => some (.inl (y25, a1, y21, l, (ile x23 (IntKind.wrap .i64 (a2 - y21))), y22, ()))
def pdqL_e [Lk] (self : (List (List Int) × Int × Int × Int × Unit) → Option ((List (List Int) × Unit))) (y6 : List (List Int)) (a1 a2 p h l : Int) (a4 a5 : Bool) : Option ((List (List Int) × Int × Int × Int × Bool × Bool × Unit) ⊕ (List (List Int) × Unit) ⊕ Unit) :=
 match a4 with
 | true => match a5 with
  | true => match (ieq h 1) with
   | true => match partInsL (y6, a1, a2, ()) with
    | none => none
    | some (y7, y8, _) => match y8 with
     | true => some (.inr (.inl (y7, ())))
     | false => pdqL_t self y7 a1 a2 p l a4 a5
   | false => pdqL_t self y6 a1 a2 p l a4 a5
  | false => pdqL_t self y6 a1 a2 p l a4 a5
 | false => pdqL_t self y6 a1 a2 p l a4 a5
def pdqL_m [Lk] (self : (List (List Int) × Int × Int × Int × Unit) → Option ((List (List Int) × Unit))) (y2 : List (List Int)) (a1 a2 l : Int) (a4 a5 : Bool) : Option ((List (List Int) × Int × Int × Int × Bool × Bool × Unit) ⊕ (List (List Int) × Unit) ⊕ Unit) :=
 match pivotL (y2, a1, a2, ()) with
 | none => none
 | some (y3, y4, y5, _) => match (ieq y5 2) with
  | true => match revL (y3, a1, a2, ()) with
   | none => none
   | some (y6, _) => pdqL_e self y6 a1 a2 (IntKind.wrap .i64 ((IntKind.wrap .i64 (a2 - 1)) - (IntKind.wrap .i64 (y4 - a1)))) 1 l a4 a5
  | false => pdqL_e self y3 a1 a2 y4 y5 l a4 a5
def pdqL_s0 [Lk] (self : (List (List Int) × Int × Int × Int × Unit) → Option ((List (List Int) × Unit))) : (List (List Int) × Int × Int × Int × Bool × Bool × Unit) → Option ((List (List Int) × Int × Int × Int × Bool × Bool × Unit) ⊕ (List (List Int) × Unit) ⊕ Unit) := fun (a0, a1, a2, a3, a4, a5, _) =>
 match (ile (IntKind.wrap .i64 (a2 - a1)) 12) with
 | true => match insL (a0, a1, a2, ()) with
  | none => none
  | some (y0, _) => some (.inr (.inl (y0, ())))
 | false => match (ieq a3 0) with
  | true => match heapL (a0, a1, a2, ()) with
   | none => none
   | some (y1, _) => some (.inr (.inl (y1, ())))
  | false => match (!a4) with
   | true => match breakL (a0, a1, a2, ()) with
    | none => none
    | some (y2, _) => pdqL_m self y2 a1 a2 (IntKind.wrap .i64 (a3 - 1)) a4 a5
   | false => pdqL_m self a0 a1 a2 a3 a4 a5
def pdqL_d [Lk] (self : (List (List Int) × Int × Int × Int × Unit) → Option ((List (List Int) × Unit))) : (List (List Int) × Int × Int × Int × Unit) → Option ((List (List Int) × Unit)) := fun (a0, a1, a2, a3, _) =>
 match iterL (pdqL_s0 self) many (a0, a1, a2, a3, true, true, ()) with
 | none => none
 | some r => match r with
  | .inl (o0, _) => some (o0, ())
  | .inr _ => none
def pdqL_f [Lk] : Nat → (List (List Int) × Int × Int × Int × Unit) → Option ((List (List Int) × Unit))
 | 0, _ => none
 | n + 1, v => pdqL_d (pdqL_f n) v
def pdqL [Lk] := fun v => Lk.f (pdqL_f 100 v)
theorem pdqL_eq v : pdqL v = pdqL_f 100 v := lock_eq _
-- slices.SortFunc[[][]int,[]int]
abbrev sortL_i : Items := [(.tmp 0, .own 32 (.slice (.int .i64))), (.tmp 1, .clo 99 [])]
abbrev sortL_o : Items := [(.obj 0, .own 32 (.slice (.int .i64)))]
abbrev sortL_r : List RS := []
def sortL_d [Lk] : (List (List Int) × Unit) → Option ((List (List Int) × Unit)) := fun (a0, _) =>
 match bitsLen ((IntKind.wrap .u64 (dlen a0)), ()) with
 | none => none
 | some (y0, _) => match pdqL (a0, 0, (dlen a0), y0, ()) with
  | none => none
  | some (y1, _) => some (y1, ())
def sortL [Lk] := fun v => Lk.f (sortL_d v)
theorem sortL_eq v : sortL v = sortL_d v := lock_eq _
-- archipelago/tour.with
abbrev twith_i : Items := [(.tmp 0, .dat (.prod (.int .i64) (.prod (.slice (.slice (.int .i64))) .unit))), (.tmp 1, .dat (.slice (.int .i64))), (.tmp 2, .dat (.slice (.slice (.int .i64))))]
abbrev twith_o : Items := [(.tmp 0, .di), (.tmp 1, .own 32 (.slice (.int .i64)))]
abbrev twith_r : List RS := [.agg 2]
abbrev twith_i1 : Items := [(.tmp 3, .box 2), (.cell 0 0, .di), (.cell 0 1, .dat (.slice (.slice (.int .i64)))), (.tmp 6, .box 2), (.cell 1 0, .di), (.cell 1 1, .nil (.slice (.int .i64))), (.tmp 7, .own 32 (.slice (.int .i64))), (.tmp 29, .dat (.slice (.slice (.int .i64)))), (.tmp 30, .di), (.tmp 31, .di)]
abbrev twith_o1 : Outs := [(.exit 2, [(.tmp 3, .box 2), (.cell 0 0, .di), (.cell 0 1, .dat (.slice (.slice (.int .i64)))), (.tmp 6, .box 2), (.cell 1 0, .di), (.cell 1 1, .nil (.slice (.int .i64))), (.tmp 7, .own 32 (.slice (.int .i64)))])]
def twith_s1 [Lk] : (Int × List (List Int) × Int × List (List Int) × List (List Int) × Int × Int × Unit) → Option ((Int × List (List Int) × Int × List (List Int) × List (List Int) × Int × Int × Unit) ⊕ (Int × List (List Int) × Int × List (List Int) × Unit) ⊕ Unit) := fun (a0, a1, a2, a3, a4, a5, a6, _) =>
 match (ilt a6 a5) with
 | true => match idx a4 a6 with
  | none => none
  | some x0 => match rplain (x0, ()) with
   | none => none
   | some (y1, _) => match (fits ((dlen a3) + (dlen ([y1] : List (List Int))))) with
    | true => some (.inl (a0, a1, a2, (dapp a3 ([y1] : List (List Int))), a4, a5, (IntKind.wrap .i64 (a6 + 1)), ()))
    | false => none
 | false => some (.inr (.inl (a0, a1, a2, a3, ())))
abbrev twith_i0 : Items := [(.tmp 1, .dat (.slice (.int .i64))), (.tmp 2, .dat (.slice (.slice (.int .i64)))), (.tmp 3, .box 2), (.cell 0 0, .di), (.cell 0 1, .dat (.slice (.slice (.int .i64)))), (.tmp 6, .box 2), (.cell 1 0, .di), (.cell 1 1, .nil (.slice (.int .i64))), (.tmp 7, .own 32 (.slice (.int .i64))), (.tmp 13, .dat (.slice (.slice (.int .i64)))), (.tmp 14, .di), (.tmp 15, .di)]
abbrev twith_o0 : Outs := [(.exit 0, [(.tmp 2, .dat (.slice (.slice (.int .i64)))), (.tmp 3, .box 2), (.cell 0 0, .di), (.cell 0 1, .dat (.slice (.slice (.int .i64)))), (.tmp 6, .box 2), (.cell 1 0, .di), (.cell 1 1, .nil (.slice (.int .i64))), (.tmp 7, .own 32 (.slice (.int .i64)))])]
def twith_s0 [Lk] : (List Int × List (List Int) × Int × List (List Int) × Int × List (List Int) × List (List Int) × Int × Int × Unit) → Option ((List Int × List (List Int) × Int × List (List Int) × Int × List (List Int) × List (List Int) × Int × Int × Unit) ⊕ (List (List Int) × Int × List (List Int) × Int × List (List Int) × Unit) ⊕ Unit) := fun (a0, a1, a2, a3, a4, a5, a6, a7, a8, _) =>
 match (ilt a8 a7) with
 | true => match idx a6 a8 with
  | none => none
  | some x0 => match containsI (a0, a8, ()) with
   | none => none
   | some (y1, _) => match (!y1) with
    | true => match (fits ((dlen a5) + (dlen ([x0] : List (List Int))))) with
     | true => some (.inl (a0, a1, a2, a3, a4, (dapp a5 ([x0] : List (List Int))), a6, a7, (IntKind.wrap .i64 (a8 + 1)), ()))
     | false => none
    | false => some (.inl (a0, a1, a2, a3, a4, a5, a6, a7, (IntKind.wrap .i64 (a8 + 1)), ()))
 | false => some (.inr (.inl (a1, a2, a3, a4, a5, ())))
def twith_d [Lk] : ((Int × (List (List Int)) × Unit) × List Int × List (List Int) × Unit) → Option ((Int × List (List Int) × Unit)) := fun (a0, a1, a2, _) =>
 match iterL twith_s0 many (a1, a2, a0.1, a0.2.1, 0, ([] : List (List Int)), a0.2.1, (dlen a0.2.1), 0, ()) with
 | none => none
 | some r => match r with
  | .inl (o0, o1, o2, o3, o4, _) => match iterL twith_s1 many (o1, o2, o3, o4, o0, (dlen o0), 0, ()) with
   | none => none
   | some r => match r with
    | .inl (o5, o6, o7, o8, _) => match sortL (o8, ()) with
     | none => none
     | some (y9, _) => some (o5, y9, ())
    | .inr _ => none
  | .inr _ => none
def twith [Lk] := fun v => Lk.f (twith_d v)
theorem twith_eq v : twith v = twith_d v := lock_eq _
-- archipelago/tour.Link
abbrev tlink_i : Items := [(.tmp 0, .dat (.prod (.int .i64) (.prod (.slice (.slice (.int .i64))) .unit))), (.tmp 1, .di), (.tmp 2, .di)]
abbrev tlink_o : Items := [(.tmp 0, .di), (.tmp 1, .dat (.slice (.slice (.int .i64)))), (.tmp 2, .di)]
abbrev tlink_r : List RS := [.agg 2, .one]
def tlink_d [Lk] : ((Int × (List (List Int)) × Unit) × Int × Int × Unit) → Option ((Int × List (List Int) × Int × Unit)) := fun (a0, a1, a2, _) =>
 match asked ((a0.1, (a0.2.1, ())), a1, a2, ()) with
 | none => none
 | some (y0, _) => match (!(ieq y0 0)) with
  | true => some (a0.1, a0.2.1, y0, ())
  | false => match tplace ((a0.1, (a0.2.1, ())), a1, ()) with
   | none => none
   | some (y1, _) => match tplace ((a0.1, (a0.2.1, ())), a2, ()) with
    | none => none
    | some (y2, _) => match (ieq y1 y2) with
     | true => some (a0.1, a0.2.1, 5, ())
     | false => match idx a0.2.1 y1 with
      | none => none
      | some x3 => match rfrom (x3, a1, ()) with
       | none => none
       | some (y4, y5, _) => match idx a0.2.1 y2 with
        | none => none
        | some x6 => match rfrom (x6, a2, ()) with
         | none => none
         | some (y7, y8, _) => match subl y4 0 1 with
          | none => none
          | some x9 => match tarc (a0.1, a1, a2, ()) with
           | none => none
           | some (y10, _) => match tarc (a0.1, a2, a1, ()) with
            | none => none
            | some (y11, _) => match subl y4 1 (dlen y4) with
             | none => none
             | some x12 => match concatI (([(dcut 0 (dnat (dlen x9)) y4), ([y10] : List (Int)), y7, ([y11] : List (Int)), (dcut 1 (dnat (dlen x12)) y4)] : List (List Int)), ()) with
              | none => none
              | some (y13, _) => match twith ((a0.1, (a0.2.1, ())), ([y1, y2] : List (Int)), ([y13] : List (List Int)), ()) with
               | none => none
               | some (y14, y15, _) => some (y14, y15, 0, ())
def tlink [Lk] := fun v => Lk.f (tlink_d v)
theorem tlink_eq v : tlink v = tlink_d v := lock_eq _
-- archipelago/tour.Cut
abbrev tcut_i : Items := [(.tmp 0, .dat (.prod (.int .i64) (.prod (.slice (.slice (.int .i64))) .unit))), (.tmp 1, .di), (.tmp 2, .di)]
abbrev tcut_o : Items := [(.tmp 0, .di), (.tmp 1, .dat (.slice (.slice (.int .i64)))), (.tmp 2, .di)]
abbrev tcut_r : List RS := [.agg 2, .one]
def tcut_d [Lk] : ((Int × (List (List Int)) × Unit) × Int × Int × Unit) → Option ((Int × List (List Int) × Int × Unit)) := fun (a0, a1, a2, _) =>
 match asked ((a0.1, (a0.2.1, ())), a1, a2, ()) with
 | none => none
 | some (y0, _) => match (!(ieq y0 0)) with
  | true => some (a0.1, a0.2.1, y0, ())
  | false => match tplace ((a0.1, (a0.2.1, ())), a1, ()) with
   | none => none
   | some (y1, _) => match idx a0.2.1 y1 with
    | none => none
    | some x2 => match tarc (a0.1, a1, a2, ()) with
     | none => none
     | some (y3, _) => match rfrom (x2, y3, ()) with
      | none => none
      | some (y4, y5, _) => match (!y5) with
       | true => some (a0.1, a0.2.1, 6, ())
       | false => match tarc (a0.1, a2, a1, ()) with
        | none => none
        | some (y6, _) => match indexI (y4, y6, ()) with
         | none => none
         | some (y7, _) => match subl y4 1 y7 with
          | none => none
          | some x8 => match subl y4 (IntKind.wrap .i64 (y7 + 1)) (dlen y4) with
           | none => none
           | some x9 => match twith ((a0.1, (a0.2.1, ())), ([y1] : List (Int)), ([(dcut 1 (dnat (dlen x8)) y4), (dcut (dnat (IntKind.wrap .i64 (y7 + 1))) (dnat (dlen x9)) y4)] : List (List Int)), ()) with
            | none => none
            | some (y10, y11, _) => some (y10, y11, 0, ())
def tcut [Lk] := fun v => Lk.f (tcut_d v)
theorem tcut_eq v : tcut v = tcut_d v := lock_eq _
-- cmp.Less[int]
abbrev lessI_i : Items := [(.tmp 0, .di), (.tmp 1, .di)]
abbrev lessI_o : Items := [(.tmp 0, .dat .bool)]
abbrev lessI_r : List RS := [.one]
def lessI_d [Lk] : (Int × Int × Unit) → Option ((Bool × Unit)) := fun (a0, a1, _) =>
 match nanI (a0, ()) with
 | none => none
 | some (y0, _) => match y0 with
  | true => match nanI (a1, ()) with
   | none => none
   | some (y1, _) => match (!y1) with
    | true => some (true, ())
    | false => some ((ilt a0 a1), ())
  | false => some ((ilt a0 a1), ())
def lessI [Lk] := fun v => Lk.f (lessI_d v)
theorem lessI_eq v : lessI v = lessI_d v := lock_eq _
-- slices.insertionSortOrdered[int]
abbrev insI_i : Items := [(.tmp 0, .own 3 (.int .i64)), (.tmp 1, .di), (.tmp 2, .di)]
abbrev insI_o : Items := [(.obj 0, .own 3 (.int .i64))]
abbrev insI_r : List RS := []
abbrev insI_i1 : Items := [(.obj 0, .own 3 (.int .i64)), (.tmp 0, .own' 0), (.tmp 1, .di), (.tmp 2, .di), (.tmp 6, .di), (.tmp 7, .di)]
abbrev insI_o1 : Outs := [(.exit 2, [(.obj 0, .own 3 (.int .i64)), (.tmp 0, .own' 0), (.tmp 1, .di), (.tmp 2, .di), (.tmp 6, .di)])]
def insI_s1 [Lk] : (List Int × Int × Int × Int × Int × Unit) → Option ((List Int × Int × Int × Int × Int × Unit) ⊕ (List Int × Int × Int × Int × Unit) ⊕ Unit) := fun (a0, a1, a2, a3, a4, _) =>
 match (ilt a1 a4) with
 | true => match idx a0 a4 with
  | none => none
  | some x0 => match idx a0 (IntKind.wrap .i64 (a4 - 1)) with
   | none => none
   | some x1 => match lessI ((dget a0 (dnat a4) 0), (dget a0 (dnat (IntKind.wrap .i64 (a4 - 1))) 0), ()) with
    | none => none
    | some (y2, _) => match y2 with
     | true => match idx a0 (IntKind.wrap .i64 (a4 - 1)) with
      | none => none
      | some x3 => match idx a0 a4 with
       | none => none
       | some x4 => match idx a0 a4 with
        | none => none
        | some x5 => match idx (dset a0 (dnat a4) (dget a0 (dnat (IntKind.wrap .i64 (a4 - 1))) 0)) (IntKind.wrap .i64 (a4 - 1)) with
         | none => none
         | some x6 => some (.inl ((dset (dset a0 (dnat a4) (dget a0 (dnat (IntKind.wrap .i64 (a4 - 1))) 0)) (dnat (IntKind.wrap .i64 (a4 - 1))) (dget a0 (dnat a4) 0)), a1, a2, a3, (IntKind.wrap .i64 (a4 - 1)), ()))
     | false => some (.inr (.inl (a0, a1, a2, a3, ())))
 | false => some (.inr (.inl (a0, a1, a2, a3, ())))
abbrev insI_i0 : Items := [(.obj 0, .own 3 (.int .i64)), (.tmp 0, .own' 0), (.tmp 1, .di), (.tmp 2, .di), (.tmp 6, .di)]
abbrev insI_o0 : Outs := [(.exit 0, [(.obj 0, .own 3 (.int .i64))])]
def insI_s0 [Lk] : (List Int × Int × Int × Int × Unit) → Option ((List Int × Int × Int × Int × Unit) ⊕ (List Int × Unit) ⊕ Unit) := fun (a0, a1, a2, a3, _) =>
 match (ilt a3 a2) with
 | true => match iterL insI_s1 many (a0, a1, a2, a3, a3, ()) with
  | none => none
  | some r => match r with
   | .inl (o0, o1, o2, o3, _) => some (.inl (o0, o1, o2, (IntKind.wrap .i64 (o3 + 1)), ()))
   | .inr _ => none
 | false => some (.inr (.inl (a0, ())))
def insI_d [Lk] : (List Int × Int × Int × Unit) → Option ((List Int × Unit)) := fun (a0, a1, a2, _) =>
 match iterL insI_s0 many (a0, a1, a2, (IntKind.wrap .i64 (a1 + 1)), ()) with
 | none => none
 | some r => match r with
  | .inl (o0, _) => some (o0, ())
  | .inr _ => none
def insI [Lk] := fun v => Lk.f (insI_d v)
theorem insI_eq v : insI v = insI_d v := lock_eq _
-- slices.siftDownOrdered[int]
abbrev siftI_i : Items := [(.tmp 0, .own 3 (.int .i64)), (.tmp 1, .di), (.tmp 2, .di), (.tmp 3, .di)]
abbrev siftI_o : Items := [(.obj 0, .own 3 (.int .i64))]
abbrev siftI_r : List RS := []
abbrev siftI_i0 : Items := [(.obj 0, .own 3 (.int .i64)), (.tmp 0, .own' 0), (.tmp 2, .di), (.tmp 3, .di), (.tmp 8, .di)]
abbrev siftI_o0 : Outs := [(.exit 0, [(.obj 0, .own 3 (.int .i64))]), (.ret, [(.obj 0, .own 3 (.int .i64))])]
def siftI_s0 [Lk] : (List Int × Int × Int × Int × Unit) → Option ((List Int × Int × Int × Int × Unit) ⊕ (List Int × Unit) ⊕ (List Int × Unit) ⊕ Unit) := fun (a0, a1, a2, a3, _) =>
 match (ile a1 (IntKind.wrap .i64 ((IntKind.wrap .i64 (2 * a3)) + 1))) with
 | true => some (.inr (.inl (a0, ())))
 | false => match (ilt (IntKind.wrap .i64 ((IntKind.wrap .i64 ((IntKind.wrap .i64 (2 * a3)) + 1)) + 1)) a1) with
  | true => match idx a0 (IntKind.wrap .i64 (a2 + (IntKind.wrap .i64 ((IntKind.wrap .i64 (2 * a3)) + 1)))) with
   | none => none
   | some x0 => match idx a0 (IntKind.wrap .i64 ((IntKind.wrap .i64 (a2 + (IntKind.wrap .i64 ((IntKind.wrap .i64 (2 * a3)) + 1)))) + 1)) with
    | none => none
    | some x1 => match lessI ((dget a0 (dnat (IntKind.wrap .i64 (a2 + (IntKind.wrap .i64 ((IntKind.wrap .i64 (2 * a3)) + 1))))) 0), (dget a0 (dnat (IntKind.wrap .i64 ((IntKind.wrap .i64 (a2 + (IntKind.wrap .i64 ((IntKind.wrap .i64 (2 * a3)) + 1)))) + 1))) 0), ()) with
     | none => none
     | some (y2, _) => match y2 with
      | true => match idx a0 (IntKind.wrap .i64 (a2 + a3)) with
       | none => none
       | some x3 => match idx a0 (IntKind.wrap .i64 (a2 + (IntKind.wrap .i64 ((IntKind.wrap .i64 ((IntKind.wrap .i64 (2 * a3)) + 1)) + 1)))) with
        | none => none
        | some x4 => match lessI ((dget a0 (dnat (IntKind.wrap .i64 (a2 + a3))) 0), (dget a0 (dnat (IntKind.wrap .i64 (a2 + (IntKind.wrap .i64 ((IntKind.wrap .i64 ((IntKind.wrap .i64 (2 * a3)) + 1)) + 1))))) 0), ()) with
         | none => none
         | some (y5, _) => match (!y5) with
          | true => some (.inr (.inr (.inl (a0, ()))))
          | false => match idx a0 (IntKind.wrap .i64 (a2 + (IntKind.wrap .i64 ((IntKind.wrap .i64 ((IntKind.wrap .i64 (2 * a3)) + 1)) + 1)))) with
           | none => none
           | some x6 => match idx a0 (IntKind.wrap .i64 (a2 + a3)) with
            | none => none
            | some x7 => match idx a0 (IntKind.wrap .i64 (a2 + a3)) with
             | none => none
             | some x8 => match idx (dset a0 (dnat (IntKind.wrap .i64 (a2 + a3))) (dget a0 (dnat (IntKind.wrap .i64 (a2 + (IntKind.wrap .i64 ((IntKind.wrap .i64 ((IntKind.wrap .i64 (2 * a3)) + 1)) + 1))))) 0)) (IntKind.wrap .i64 (a2 + (IntKind.wrap .i64 ((IntKind.wrap .i64 ((IntKind.wrap .i64 (2 * a3)) + 1)) + 1)))) with
              | none => none
              | some x9 => some (.inl ((dset (dset a0 (dnat (IntKind.wrap .i64 (a2 + a3))) (dget a0 (dnat (IntKind.wrap .i64 (a2 + (IntKind.wrap .i64 ((IntKind.wrap .i64 ((IntKind.wrap .i64 (2 * a3)) + 1)) + 1))))) 0)) (dnat (IntKind.wrap .i64 (a2 + (IntKind.wrap .i64 ((IntKind.wrap .i64 ((IntKind.wrap .i64 (2 * a3)) + 1)) + 1))))) (dget a0 (dnat (IntKind.wrap .i64 (a2 + a3))) 0)), a1, a2, (IntKind.wrap .i64 ((IntKind.wrap .i64 ((IntKind.wrap .i64 (2 * a3)) + 1)) + 1)), ()))
      | false => match idx a0 (IntKind.wrap .i64 (a2 + a3)) with
       | none => none
       | some x10 => match idx a0 (IntKind.wrap .i64 (a2 + (IntKind.wrap .i64 ((IntKind.wrap .i64 (2 * a3)) + 1)))) with
        | none => none
        | some x11 => match lessI ((dget a0 (dnat (IntKind.wrap .i64 (a2 + a3))) 0), (dget a0 (dnat (IntKind.wrap .i64 (a2 + (IntKind.wrap .i64 ((IntKind.wrap .i64 (2 * a3)) + 1))))) 0), ()) with
         | none => none
         | some (y12, _) => match (!y12) with
          | true => some (.inr (.inr (.inl (a0, ()))))
          | false => match idx a0 (IntKind.wrap .i64 (a2 + (IntKind.wrap .i64 ((IntKind.wrap .i64 (2 * a3)) + 1)))) with
           | none => none
           | some x13 => match idx a0 (IntKind.wrap .i64 (a2 + a3)) with
            | none => none
            | some x14 => match idx a0 (IntKind.wrap .i64 (a2 + a3)) with
             | none => none
             | some x15 => match idx (dset a0 (dnat (IntKind.wrap .i64 (a2 + a3))) (dget a0 (dnat (IntKind.wrap .i64 (a2 + (IntKind.wrap .i64 ((IntKind.wrap .i64 (2 * a3)) + 1))))) 0)) (IntKind.wrap .i64 (a2 + (IntKind.wrap .i64 ((IntKind.wrap .i64 (2 * a3)) + 1)))) with
              | none => none
              | some x16 => some (.inl ((dset (dset a0 (dnat (IntKind.wrap .i64 (a2 + a3))) (dget a0 (dnat (IntKind.wrap .i64 (a2 + (IntKind.wrap .i64 ((IntKind.wrap .i64 (2 * a3)) + 1))))) 0)) (dnat (IntKind.wrap .i64 (a2 + (IntKind.wrap .i64 ((IntKind.wrap .i64 (2 * a3)) + 1))))) (dget a0 (dnat (IntKind.wrap .i64 (a2 + a3))) 0)), a1, a2, (IntKind.wrap .i64 ((IntKind.wrap .i64 (2 * a3)) + 1)), ()))
  | false => match idx a0 (IntKind.wrap .i64 (a2 + a3)) with
   | none => none
   | some x17 => match idx a0 (IntKind.wrap .i64 (a2 + (IntKind.wrap .i64 ((IntKind.wrap .i64 (2 * a3)) + 1)))) with
    | none => none
    | some x18 => match lessI ((dget a0 (dnat (IntKind.wrap .i64 (a2 + a3))) 0), (dget a0 (dnat (IntKind.wrap .i64 (a2 + (IntKind.wrap .i64 ((IntKind.wrap .i64 (2 * a3)) + 1))))) 0), ()) with
     | none => none
     | some (y19, _) => match (!y19) with
      | true => some (.inr (.inr (.inl (a0, ()))))
      | false => match idx a0 (IntKind.wrap .i64 (a2 + (IntKind.wrap .i64 ((IntKind.wrap .i64 (2 * a3)) + 1)))) with
       | none => none
       | some x20 => match idx a0 (IntKind.wrap .i64 (a2 + a3)) with
        | none => none
        | some x21 => match idx a0 (IntKind.wrap .i64 (a2 + a3)) with
         | none => none
         | some x22 => match idx (dset a0 (dnat (IntKind.wrap .i64 (a2 + a3))) (dget a0 (dnat (IntKind.wrap .i64 (a2 + (IntKind.wrap .i64 ((IntKind.wrap .i64 (2 * a3)) + 1))))) 0)) (IntKind.wrap .i64 (a2 + (IntKind.wrap .i64 ((IntKind.wrap .i64 (2 * a3)) + 1)))) with
          | none => none
          | some x23 => some (.inl ((dset (dset a0 (dnat (IntKind.wrap .i64 (a2 + a3))) (dget a0 (dnat (IntKind.wrap .i64 (a2 + (IntKind.wrap .i64 ((IntKind.wrap .i64 (2 * a3)) + 1))))) 0)) (dnat (IntKind.wrap .i64 (a2 + (IntKind.wrap .i64 ((IntKind.wrap .i64 (2 * a3)) + 1))))) (dget a0 (dnat (IntKind.wrap .i64 (a2 + a3))) 0)), a1, a2, (IntKind.wrap .i64 ((IntKind.wrap .i64 (2 * a3)) + 1)), ()))
def siftI_d [Lk] : (List Int × Int × Int × Int × Unit) → Option ((List Int × Unit)) := fun (a0, a1, a2, a3, _) =>
 match iterL siftI_s0 many (a0, a2, a3, a1, ()) with
 | none => none
 | some r => match r with
  | .inl (o0, _) => some (o0, ())
  | .inr r => match r with
   | .inl (o1, _) => some (o1, ())
   | .inr _ => none
def siftI [Lk] := fun v => Lk.f (siftI_d v)
theorem siftI_eq v : siftI v = siftI_d v := lock_eq _
-- slices.heapSortOrdered[int]
abbrev heapI_i : Items := [(.tmp 0, .own 3 (.int .i64)), (.tmp 1, .di), (.tmp 2, .di)]
abbrev heapI_o : Items := [(.obj 0, .own 3 (.int .i64))]
abbrev heapI_r : List RS := []
abbrev heapI_i1 : Items := [(.obj 0, .own 3 (.int .i64)), (.tmp 0, .own' 0), (.tmp 6, .di), (.tmp 7, .di), (.tmp 10, .di)]
abbrev heapI_o1 : Outs := [(.exit 2, [(.obj 0, .own 3 (.int .i64))])]
def heapI_s1 [Lk] : (List Int × Int × Int × Int × Unit) → Option ((List Int × Int × Int × Int × Unit) ⊕ (List Int × Unit) ⊕ Unit) := fun (a0, a1, a2, a3, _) =>
 match (ile 0 a3) with
 | true => match idx a0 (IntKind.wrap .i64 (a1 + a3)) with
  | none => none
  | some x0 => match idx a0 a1 with
   | none => none
   | some x1 => match idx a0 a1 with
    | none => none
    | some x2 => match idx (dset a0 (dnat a1) (dget a0 (dnat (IntKind.wrap .i64 (a1 + a3))) 0)) (IntKind.wrap .i64 (a1 + a3)) with
     | none => none
     | some x3 => match siftI ((dset (dset a0 (dnat a1) (dget a0 (dnat (IntKind.wrap .i64 (a1 + a3))) 0)) (dnat (IntKind.wrap .i64 (a1 + a3))) (dget a0 (dnat a1) 0)), a2, a3, a1, ()) with
      | none => none
      | some (y4, _) => some (.inl (y4, a1, a2, (IntKind.wrap .i64 (a3 - 1)), ()))
 | false => some (.inr (.inl (a0, ())))
abbrev heapI_i0 : Items := [(.obj 0, .own 3 (.int .i64)), (.tmp 0, .own' 0), (.tmp 6, .di), (.tmp 7, .di), (.tmp 8, .di), (.tmp 9, .di)]
abbrev heapI_o0 : Outs := [(.exit 0, [(.obj 0, .own 3 (.int .i64)), (.tmp 0, .own' 0), (.tmp 6, .di), (.tmp 7, .di), (.tmp 8, .di)])]
def heapI_s0 [Lk] : (List Int × Int × Int × Int × Int × Unit) → Option ((List Int × Int × Int × Int × Int × Unit) ⊕ (List Int × Int × Int × Int × Unit) ⊕ Unit) := fun (a0, a1, a2, a3, a4, _) =>
 match (ile 0 a4) with
 | true => match siftI (a0, a4, a3, a1, ()) with
  | none => none
  | some (y0, _) => some (.inl (y0, a1, a2, a3, (IntKind.wrap .i64 (a4 - 1)), ()))
 | false => some (.inr (.inl (a0, a1, a2, a3, ())))
def heapI_d [Lk] : (List Int × Int × Int × Unit) → Option ((List Int × Unit)) := fun (a0, a1, a2, _) =>
 match quo? .i64 (IntKind.wrap .i64 ((IntKind.wrap .i64 (a2 - a1)) - 1)) 2 with
 | none => none
 | some x0 => match iterL heapI_s0 many (a0, a1, 0, (IntKind.wrap .i64 (a2 - a1)), x0, ()) with
  | none => none
  | some r => match r with
   | .inl (o1, o2, o3, o4, _) => match iterL heapI_s1 many (o1, o2, o3, (IntKind.wrap .i64 (o4 - 1)), ()) with
    | none => none
    | some r => match r with
     | .inl (o5, _) => some (o5, ())
     | .inr _ => none
   | .inr _ => none
def heapI [Lk] := fun v => Lk.f (heapI_d v)
theorem heapI_eq v : heapI v = heapI_d v := lock_eq _
-- slices.breakPatternsOrdered[int]
abbrev breakI_i : Items := [(.tmp 0, .own 3 (.int .i64)), (.tmp 1, .di), (.tmp 2, .di)]
abbrev breakI_o : Items := [(.obj 0, .own 3 (.int .i64))]
abbrev breakI_r : List RS := []
abbrev breakI_i0 : Items := [(.obj 0, .own 3 (.int .i64)), (.tmp 0, .own' 0), (.tmp 1, .di), (.tmp 6, .di), (.tmp 7, .box 1), (.cell 1 0, .dat (.int .u64)), (.tmp 8, .dat (.int .u64)), (.tmp 9, .di)]
abbrev breakI_o0 : Outs := [(.exit 0, [(.obj 0, .own 3 (.int .i64))])]
def breakI_s0 [Lk] : (List Int × Int × Int × Int × Int × Int × Unit) → Option ((List Int × Int × Int × Int × Int × Int × Unit) ⊕ (List Int × Unit) ⊕ Unit) := fun (a0, a1, a2, a3, a4, a5, _) =>
 match quo? .i64 a2 4 with
 | none => none
 | some x0 => match (ile a5 (IntKind.wrap .i64 ((IntKind.wrap .i64 (a1 + (IntKind.wrap .i64 (x0 * 2)))) + 1))) with
  | true => match xorNext (a3, ()) with
   | none => none
   | some (y1, y2, _) => match (ile a2 (IntKind.wrap .i64 (IntKind.wrap .u64 ((BitVec.ofInt (IntKind.bits .u64) y2 &&& BitVec.ofInt (IntKind.bits .u64) (IntKind.wrap .u64 (a4 - 1))).toNat)))) with
    | true => match idx a0 (IntKind.wrap .i64 (a1 + (IntKind.wrap .i64 ((IntKind.wrap .i64 (IntKind.wrap .u64 ((BitVec.ofInt (IntKind.bits .u64) y2 &&& BitVec.ofInt (IntKind.bits .u64) (IntKind.wrap .u64 (a4 - 1))).toNat))) - a2)))) with
     | none => none
     | some x3 => match idx a0 a5 with
      | none => none
      | some x4 => match idx a0 a5 with
       | none => none
       | some x5 => match idx (dset a0 (dnat a5) (dget a0 (dnat (IntKind.wrap .i64 (a1 + (IntKind.wrap .i64 ((IntKind.wrap .i64 (IntKind.wrap .u64 ((BitVec.ofInt (IntKind.bits .u64) y2 &&& BitVec.ofInt (IntKind.bits .u64) (IntKind.wrap .u64 (a4 - 1))).toNat))) - a2))))) 0)) (IntKind.wrap .i64 (a1 + (IntKind.wrap .i64 ((IntKind.wrap .i64 (IntKind.wrap .u64 ((BitVec.ofInt (IntKind.bits .u64) y2 &&& BitVec.ofInt (IntKind.bits .u64) (IntKind.wrap .u64 (a4 - 1))).toNat))) - a2)))) with
        | none => none
        | some x6 => some (.inl ((dset (dset a0 (dnat a5) (dget a0 (dnat (IntKind.wrap .i64 (a1 + (IntKind.wrap .i64 ((IntKind.wrap .i64 (IntKind.wrap .u64 ((BitVec.ofInt (IntKind.bits .u64) y2 &&& BitVec.ofInt (IntKind.bits .u64) (IntKind.wrap .u64 (a4 - 1))).toNat))) - a2))))) 0)) (dnat (IntKind.wrap .i64 (a1 + (IntKind.wrap .i64 ((IntKind.wrap .i64 (IntKind.wrap .u64 ((BitVec.ofInt (IntKind.bits .u64) y2 &&& BitVec.ofInt (IntKind.bits .u64) (IntKind.wrap .u64 (a4 - 1))).toNat))) - a2))))) (dget a0 (dnat a5) 0)), a1, a2, y1, a4, (IntKind.wrap .i64 (a5 + 1)), ()))
    | false => match idx a0 (IntKind.wrap .i64 (a1 + (IntKind.wrap .i64 (IntKind.wrap .u64 ((BitVec.ofInt (IntKind.bits .u64) y2 &&& BitVec.ofInt (IntKind.bits .u64) (IntKind.wrap .u64 (a4 - 1))).toNat))))) with
     | none => none
     | some x7 => match idx a0 a5 with
      | none => none
      | some x8 => match idx a0 a5 with
       | none => none
       | some x9 => match idx (dset a0 (dnat a5) (dget a0 (dnat (IntKind.wrap .i64 (a1 + (IntKind.wrap .i64 (IntKind.wrap .u64 ((BitVec.ofInt (IntKind.bits .u64) y2 &&& BitVec.ofInt (IntKind.bits .u64) (IntKind.wrap .u64 (a4 - 1))).toNat)))))) 0)) (IntKind.wrap .i64 (a1 + (IntKind.wrap .i64 (IntKind.wrap .u64 ((BitVec.ofInt (IntKind.bits .u64) y2 &&& BitVec.ofInt (IntKind.bits .u64) (IntKind.wrap .u64 (a4 - 1))).toNat))))) with
        | none => none
        | some x10 => some (.inl ((dset (dset a0 (dnat a5) (dget a0 (dnat (IntKind.wrap .i64 (a1 + (IntKind.wrap .i64 (IntKind.wrap .u64 ((BitVec.ofInt (IntKind.bits .u64) y2 &&& BitVec.ofInt (IntKind.bits .u64) (IntKind.wrap .u64 (a4 - 1))).toNat)))))) 0)) (dnat (IntKind.wrap .i64 (a1 + (IntKind.wrap .i64 (IntKind.wrap .u64 ((BitVec.ofInt (IntKind.bits .u64) y2 &&& BitVec.ofInt (IntKind.bits .u64) (IntKind.wrap .u64 (a4 - 1))).toNat)))))) (dget a0 (dnat a5) 0)), a1, a2, y1, a4, (IntKind.wrap .i64 (a5 + 1)), ()))
  | false => some (.inr (.inl (a0, ())))
def breakI_d [Lk] : (List Int × Int × Int × Unit) → Option ((List Int × Unit)) := fun (a0, a1, a2, _) =>
 match (ile 8 (IntKind.wrap .i64 (a2 - a1))) with
 | true => match nextPow ((IntKind.wrap .i64 (a2 - a1)), ()) with
  | none => none
  | some (y0, _) => match quo? .i64 (IntKind.wrap .i64 (a2 - a1)) 4 with
   | none => none
   | some x1 => match iterL breakI_s0 many (a0, a1, (IntKind.wrap .i64 (a2 - a1)), (IntKind.wrap .u64 (IntKind.wrap .i64 (a2 - a1))), y0, (IntKind.wrap .i64 ((IntKind.wrap .i64 (a1 + (IntKind.wrap .i64 (x1 * 2)))) - 1)), ()) with
    | none => none
    | some r => match r with
     | .inl (o2, _) => some (o2, ())
     | .inr _ => none
 | false => some (a0, ())
def breakI [Lk] := fun v => Lk.f (breakI_d v)
theorem breakI_eq v : breakI v = breakI_d v := lock_eq _
-- slices.order2Ordered[int]
abbrev order2I_i : Items := [(.tmp 0, .own 3 (.int .i64)), (.tmp 1, .di), (.tmp 2, .di), (.tmp 3, .box 1), (.cell 1 0, .di)]
abbrev order2I_o : Items := [(.obj 0, .own 3 (.int .i64)), (.obj 1, .box 1), (.cell 1 0, .di), (.tmp 0, .di), (.tmp 1, .di)]
abbrev order2I_r : List RS := [.one, .one]
def order2I_d [Lk] : (List Int × Int × Int × Int × Unit) → Option ((List Int × Int × Int × Int × Unit)) := fun (a0, a1, a2, a3, _) =>
 match idx a0 a2 with
 | none => none
 | some x0 => match idx a0 a1 with
  | none => none
  | some x1 => match lessI ((dget a0 (dnat a2) 0), (dget a0 (dnat a1) 0), ()) with
   | none => none
   | some (y2, _) => match y2 with
    | true => some (a0, (IntKind.wrap .i64 (a3 + 1)), a2, a1, ())
    | false => some (a0, a3, a1, a2, ())
def order2I [Lk] := fun v => Lk.f (order2I_d v)
theorem order2I_eq v : order2I v = order2I_d v := lock_eq _
-- slices.medianOrdered[int]
abbrev medianI_i : Items := [(.tmp 0, .own 3 (.int .i64)), (.tmp 1, .di), (.tmp 2, .di), (.tmp 3, .di), (.tmp 4, .box 1), (.cell 1 0, .di)]
abbrev medianI_o : Items := [(.obj 0, .own 3 (.int .i64)), (.obj 1, .box 1), (.cell 1 0, .di), (.tmp 0, .di)]
abbrev medianI_r : List RS := [.one]
def medianI_d [Lk] : (List Int × Int × Int × Int × Int × Unit) → Option ((List Int × Int × Int × Unit)) := fun (a0, a1, a2, a3, a4, _) =>
 match order2I (a0, a1, a2, a4, ()) with
 | none => none
 | some (y0, y1, y2, y3, _) => match order2I (y0, y3, a3, y1, ()) with
  | none => none
  | some (y4, y5, y6, y7, _) => match order2I (y4, y2, y6, y5, ()) with
   | none => none
   | some (y8, y9, y10, y11, _) => some (y8, y9, y11, ())
def medianI [Lk] := fun v => Lk.f (medianI_d v)
theorem medianI_eq v : medianI v = medianI_d v := lock_eq _
-- slices.medianAdjacentOrdered[int]
abbrev medAdjI_i : Items := [(.tmp 0, .own 3 (.int .i64)), (.tmp 1, .di), (.tmp 2, .box 1), (.cell 1 0, .di)]
abbrev medAdjI_o : Items := [(.obj 0, .own 3 (.int .i64)), (.obj 1, .box 1), (.cell 1 0, .di), (.tmp 0, .di)]
abbrev medAdjI_r : List RS := [.one]
def medAdjI_d [Lk] : (List Int × Int × Int × Unit) → Option ((List Int × Int × Int × Unit)) := fun (a0, a1, a2, _) =>
 match medianI (a0, (IntKind.wrap .i64 (a1 - 1)), a1, (IntKind.wrap .i64 (a1 + 1)), a2, ()) with
 | none => none
 | some (y0, y1, y2, _) => some (y0, y1, y2, ())
def medAdjI [Lk] := fun v => Lk.f (medAdjI_d v)
theorem medAdjI_eq v : medAdjI v = medAdjI_d v := lock_eq _
-- slices.choosePivotOrdered[int]
abbrev pivotI_i : Items := [(.tmp 0, .own 3 (.int .i64)), (.tmp 1, .di), (.tmp 2, .di)]
abbrev pivotI_o : Items := [(.obj 0, .own 3 (.int .i64)), (.tmp 0, .di), (.tmp 1, .di)]
abbrev pivotI_r : List RS := [.one, .one]
def pivotI_d [Lk] : (List Int × Int × Int × Unit) → Option ((List Int × Int × Int × Unit)) := fun (a0, a1, a2, _) =>
 match quo? .i64 (IntKind.wrap .i64 (a2 - a1)) 4 with
 | none => none
 | some x0 => match quo? .i64 (IntKind.wrap .i64 (a2 - a1)) 4 with
  | none => none
  | some x1 => match quo? .i64 (IntKind.wrap .i64 (a2 - a1)) 4 with
   | none => none
   | some x2 => match (ile 8 (IntKind.wrap .i64 (a2 - a1))) with
    | true => match (ile 50 (IntKind.wrap .i64 (a2 - a1))) with
     | true => match medAdjI (a0, (IntKind.wrap .i64 (a1 + (IntKind.wrap .i64 (x0 * 1)))), 0, ()) with
      | none => none
      | some (y3, y4, y5, _) => match medAdjI (y3, (IntKind.wrap .i64 (a1 + (IntKind.wrap .i64 (x1 * 2)))), y4, ()) with
       | none => none
       | some (y6, y7, y8, _) => match medAdjI (y6, (IntKind.wrap .i64 (a1 + (IntKind.wrap .i64 (x2 * 3)))), y7, ()) with
        | none => none
        | some (y9, y10, y11, _) => match medianI (y9, y5, y8, y11, y10, ()) with
         | none => none
         | some (y12, y13, y14, _) => match (ieq y13 0) with
          | true => some (y12, y14, 1, ())
          | false => match (ieq y13 12) with
           | true => some (y12, y14, 2, ())
           | false => some (y12, y14, 0, ())
     | false => match medianI (a0, (IntKind.wrap .i64 (a1 + (IntKind.wrap .i64 (x0 * 1)))), (IntKind.wrap .i64 (a1 + (IntKind.wrap .i64 (x1 * 2)))), (IntKind.wrap .i64 (a1 + (IntKind.wrap .i64 (x2 * 3)))), 0, ()) with
      | none => none
      | some (y15, y16, y17, _) => match (ieq y16 0) with
       | true => some (y15, y17, 1, ())
       | false => match (ieq y16 12) with
        | true => some (y15, y17, 2, ())
        | false => some (y15, y17, 0, ())
    | false => match (ieq 0 0) with
     | true => some (a0, (IntKind.wrap .i64 (a1 + (IntKind.wrap .i64 (x1 * 2)))), 1, ())
     | false => match (ieq 0 12) with
      | true => some (a0, (IntKind.wrap .i64 (a1 + (IntKind.wrap .i64 (x1 * 2)))), 2, ())
      | false => some (a0, (IntKind.wrap .i64 (a1 + (IntKind.wrap .i64 (x1 * 2)))), 0, ())
def pivotI [Lk] := fun v => Lk.f (pivotI_d v)
theorem pivotI_eq v : pivotI v = pivotI_d v := lock_eq _
-- slices.reverseRangeOrdered[int]
abbrev revI_i : Items := [(.tmp 0, .own 3 (.int .i64)), (.tmp 1, .di), (.tmp 2, .di)]
abbrev revI_o : Items := [(.obj 0, .own 3 (.int .i64))]
abbrev revI_r : List RS := []
abbrev revI_i0 : Items := [(.obj 0, .own 3 (.int .i64)), (.tmp 0, .own' 0), (.tmp 6, .di), (.tmp 7, .di)]
abbrev revI_o0 : Outs := [(.exit 0, [(.obj 0, .own 3 (.int .i64))])]
def revI_s0 [Lk] : (List Int × Int × Int × Unit) → Option ((List Int × Int × Int × Unit) ⊕ (List Int × Unit) ⊕ Unit) := fun (a0, a1, a2, _) =>
 match (ilt a1 a2) with
 | true => match idx a0 a2 with
  | none => none
  | some x0 => match idx a0 a1 with
   | none => none
   | some x1 => match idx a0 a1 with
    | none => none
    | some x2 => match idx (dset a0 (dnat a1) (dget a0 (dnat a2) 0)) a2 with
     | none => none
     | some x3 => some (.inl ((dset (dset a0 (dnat a1) (dget a0 (dnat a2) 0)) (dnat a2) (dget a0 (dnat a1) 0)), (IntKind.wrap .i64 (a1 + 1)), (IntKind.wrap .i64 (a2 - 1)), ()))
 | false => some (.inr (.inl (a0, ())))
def revI_d [Lk] : (List Int × Int × Int × Unit) → Option ((List Int × Unit)) := fun (a0, a1, a2, _) =>
 match iterL revI_s0 many (a0, a1, (IntKind.wrap .i64 (a2 - 1)), ()) with
 | none => none
 | some r => match r with
  | .inl (o0, _) => some (o0, ())
  | .inr _ => none
def revI [Lk] := fun v => Lk.f (revI_d v)
theorem revI_eq v : revI v = revI_d v := lock_eq _
-- slices.partialInsertionSortOrdered[int]
abbrev partInsI_i : Items := [(.tmp 0, .own 3 (.int .i64)), (.tmp 1, .di), (.tmp 2, .di)]
abbrev partInsI_o : Items := [(.obj 0, .own 3 (.int .i64)), (.tmp 0, .dat .bool)]
abbrev partInsI_r : List RS := [.one]
abbrev partInsI_i3 : Items := [(.obj 0, .own 3 (.int .i64)), (.tmp 0, .own' 0), (.tmp 1, .di), (.tmp 2, .di), (.tmp 7, .di), (.tmp 8, .di), (.tmp 10, .di)]
abbrev partInsI_o3 : Outs := [(.exit 6, [(.obj 0, .own 3 (.int .i64)), (.tmp 0, .own' 0), (.tmp 1, .di), (.tmp 2, .di), (.tmp 7, .di), (.tmp 8, .di)])]
def partInsI_s3 [Lk] : (List Int × Int × Int × Int × Int × Int × Unit) → Option ((List Int × Int × Int × Int × Int × Int × Unit) ⊕ (List Int × Int × Int × Int × Int × Unit) ⊕ Unit) := fun (a0, a1, a2, a3, a4, a5, _) =>
 match (ilt a5 a2) with
 | true => match idx a0 a5 with
  | none => none
  | some x0 => match idx a0 (IntKind.wrap .i64 (a5 - 1)) with
   | none => none
   | some x1 => match lessI ((dget a0 (dnat a5) 0), (dget a0 (dnat (IntKind.wrap .i64 (a5 - 1))) 0), ()) with
    | none => none
    | some (y2, _) => match (!y2) with
     | true => some (.inr (.inl (a0, a1, a2, a3, a4, ())))
     | false => match idx a0 (IntKind.wrap .i64 (a5 - 1)) with
      | none => none
      | some x3 => match idx a0 a5 with
       | none => none
       | some x4 => match idx a0 a5 with
        | none => none
        | some x5 => match idx (dset a0 (dnat a5) (dget a0 (dnat (IntKind.wrap .i64 (a5 - 1))) 0)) (IntKind.wrap .i64 (a5 - 1)) with
         | none => none
         | some x6 => some (.inl ((dset (dset a0 (dnat a5) (dget a0 (dnat (IntKind.wrap .i64 (a5 - 1))) 0)) (dnat (IntKind.wrap .i64 (a5 - 1))) (dget a0 (dnat a5) 0)), a1, a2, a3, a4, (IntKind.wrap .i64 (a5 + 1)), ()))
 | false => some (.inr (.inl (a0, a1, a2, a3, a4, ())))
abbrev partInsI_i2 : Items := [(.obj 0, .own 3 (.int .i64)), (.tmp 0, .own' 0), (.tmp 1, .di), (.tmp 2, .di), (.tmp 7, .di), (.tmp 8, .di), (.tmp 9, .di)]
abbrev partInsI_o2 : Outs := [(.exit 4, [(.obj 0, .own 3 (.int .i64)), (.tmp 0, .own' 0), (.tmp 1, .di), (.tmp 2, .di), (.tmp 7, .di), (.tmp 8, .di)])]
def partInsI_s2 [Lk] : (List Int × Int × Int × Int × Int × Int × Unit) → Option ((List Int × Int × Int × Int × Int × Int × Unit) ⊕ (List Int × Int × Int × Int × Int × Unit) ⊕ Unit) := fun (a0, a1, a2, a3, a4, a5, _) =>
 match (ile 1 a5) with
 | true => match idx a0 a5 with
  | none => none
  | some x0 => match idx a0 (IntKind.wrap .i64 (a5 - 1)) with
   | none => none
   | some x1 => match lessI ((dget a0 (dnat a5) 0), (dget a0 (dnat (IntKind.wrap .i64 (a5 - 1))) 0), ()) with
    | none => none
    | some (y2, _) => match (!y2) with
     | true => some (.inr (.inl (a0, a1, a2, a3, a4, ())))
     | false => match idx a0 (IntKind.wrap .i64 (a5 - 1)) with
      | none => none
      | some x3 => match idx a0 a5 with
       | none => none
       | some x4 => match idx a0 a5 with
        | none => none
        | some x5 => match idx (dset a0 (dnat a5) (dget a0 (dnat (IntKind.wrap .i64 (a5 - 1))) 0)) (IntKind.wrap .i64 (a5 - 1)) with
         | none => none
         | some x6 => some (.inl ((dset (dset a0 (dnat a5) (dget a0 (dnat (IntKind.wrap .i64 (a5 - 1))) 0)) (dnat (IntKind.wrap .i64 (a5 - 1))) (dget a0 (dnat a5) 0)), a1, a2, a3, a4, (IntKind.wrap .i64 (a5 - 1)), ()))
 | false => some (.inr (.inl (a0, a1, a2, a3, a4, ())))
abbrev partInsI_i1 : Items := [(.obj 0, .own 3 (.int .i64)), (.tmp 0, .own' 0), (.tmp 1, .di), (.tmp 2, .di), (.tmp 7, .di), (.tmp 8, .di)]
abbrev partInsI_o1 : Outs := [(.exit 2, [(.obj 0, .own 3 (.int .i64)), (.tmp 0, .own' 0), (.tmp 1, .di), (.tmp 2, .di), (.tmp 7, .di), (.tmp 8, .di)])]
def partInsI_s1 [Lk] : (List Int × Int × Int × Int × Int × Unit) → Option ((List Int × Int × Int × Int × Int × Unit) ⊕ (List Int × Int × Int × Int × Int × Unit) ⊕ Unit) := fun (a0, a1, a2, a3, a4, _) =>
 match (ilt a3 a2) with
 | true => match idx a0 a3 with
  | none => none
  | some x0 => match idx a0 (IntKind.wrap .i64 (a3 - 1)) with
   | none => none
   | some x1 => match lessI ((dget a0 (dnat a3) 0), (dget a0 (dnat (IntKind.wrap .i64 (a3 - 1))) 0), ()) with
    | none => none
    | some (y2, _) => match (!y2) with
     | true => some (.inl (a0, a1, a2, (IntKind.wrap .i64 (a3 + 1)), a4, ()))
     | false => some (.inr (.inl (a0, a1, a2, a3, a4, ())))
 | false => some (.inr (.inl (a0, a1, a2, a3, a4, ())))
abbrev partInsI_i0 : Items := [(.obj 0, .own 3 (.int .i64)), (.tmp 0, .own' 0), (.tmp 1, .di), (.tmp 2, .di), (.tmp 7, .di), (.tmp 8, .di)]
abbrev partInsI_o0 : Outs := [(.ret, [(.obj 0, .own 3 (.int .i64)), (.tmp 6, .dat .bool)]), (.exit 0, [(.obj 0, .own 3 (.int .i64))])]
def partInsI_s0 [Lk] : (List Int × Int × Int × Int × Int × Unit) → Option ((List Int × Int × Int × Int × Int × Unit) ⊕ (List Int × Bool × Unit) ⊕ (List Int × Unit) ⊕ Unit) := fun (a0, a1, a2, a3, a4, _) =>
 match (ilt a4 5) with
 | true => match iterL partInsI_s1 many (a0, a1, a2, a3, a4, ()) with
  | none => none
  | some r => match r with
   | .inl (o0, o1, o2, o3, o4, _) => match (ieq o3 o2) with
    | true => some (.inr (.inl (o0, true, ())))
    | false => match (ilt (IntKind.wrap .i64 (o2 - o1)) 50) with
     | true => some (.inr (.inl (o0, false, ())))
     | false => match idx o0 (IntKind.wrap .i64 (o3 - 1)) with
      | none => none
      | some x5 => match idx o0 o3 with
       | none => none
       | some x6 => match idx o0 o3 with
        | none => none
        | some x7 => match idx (dset o0 (dnat o3) (dget o0 (dnat (IntKind.wrap .i64 (o3 - 1))) 0)) (IntKind.wrap .i64 (o3 - 1)) with
         | none => none
         | some x8 => match (ile 2 (IntKind.wrap .i64 (o3 - o1))) with
          | true => match iterL partInsI_s2 many ((dset (dset o0 (dnat o3) (dget o0 (dnat (IntKind.wrap .i64 (o3 - 1))) 0)) (dnat (IntKind.wrap .i64 (o3 - 1))) (dget o0 (dnat o3) 0)), o1, o2, o3, o4, (IntKind.wrap .i64 (o3 - 1)), ()) with
           | none => none
           | some r => match r with
            | .inl (o9, o10, o11, o12, o13, _) => match (ile 2 (IntKind.wrap .i64 (o11 - o12))) with
             | true => match iterL partInsI_s3 many (o9, o10, o11, o12, o13, (IntKind.wrap .i64 (o12 + 1)), ()) with
              | none => none
              | some r => match r with
               | .inl (o14, o15, o16, o17, o18, _) => some (.inl (o14, o15, o16, o17, (IntKind.wrap .i64 (o18 + 1)), ()))
               | .inr _ => none
             | false => some (.inl (o9, o10, o11, o12, (IntKind.wrap .i64 (o13 + 1)), ()))
            | .inr _ => none
          | false => match (ile 2 (IntKind.wrap .i64 (o2 - o3))) with
           | true => match iterL partInsI_s3 many ((dset (dset o0 (dnat o3) (dget o0 (dnat (IntKind.wrap .i64 (o3 - 1))) 0)) (dnat (IntKind.wrap .i64 (o3 - 1))) (dget o0 (dnat o3) 0)), o1, o2, o3, o4, (IntKind.wrap .i64 (o3 + 1)), ()) with
            | none => none
            | some r => match r with
             | .inl (o19, o20, o21, o22, o23, _) => some (.inl (o19, o20, o21, o22, (IntKind.wrap .i64 (o23 + 1)), ()))
             | .inr _ => none
           | false => some (.inl ((dset (dset o0 (dnat o3) (dget o0 (dnat (IntKind.wrap .i64 (o3 - 1))) 0)) (dnat (IntKind.wrap .i64 (o3 - 1))) (dget o0 (dnat o3) 0)), o1, o2, o3, (IntKind.wrap .i64 (o4 + 1)), ()))
   | .inr _ => none
 | false => some (.inr (.inr (.inl (a0, ()))))
def partInsI_d [Lk] : (List Int × Int × Int × Unit) → Option ((List Int × Bool × Unit)) := fun (a0, a1, a2, _) =>
 match iterL partInsI_s0 many (a0, a1, a2, (IntKind.wrap .i64 (a1 + 1)), 0, ()) with
 | none => none
 | some r => match r with
  | .inl (o0, o1, _) => some (o0, o1, ())
  | .inr r => match r with
   | .inl (o2, _) => some (o2, false, ())
   | .inr _ => none
def partInsI [Lk] := fun v => Lk.f (partInsI_d v)
theorem partInsI_eq v : partInsI v = partInsI_d v := lock_eq _
-- slices.partitionEqualOrdered[int]
abbrev partEqI_i : Items := [(.tmp 0, .own 3 (.int .i64)), (.tmp 1, .di), (.tmp 2, .di), (.tmp 3, .di)]
abbrev partEqI_o : Items := [(.obj 0, .own 3 (.int .i64)), (.tmp 0, .di)]
abbrev partEqI_r : List RS := [.one]
abbrev partEqI_i2 : Items := [(.obj 0, .own 3 (.int .i64)), (.tmp 0, .own' 0), (.tmp 1, .di), (.tmp 9, .di), (.tmp 10, .di)]
abbrev partEqI_o2 : Outs := [(.exit 4, [(.obj 0, .own 3 (.int .i64)), (.tmp 0, .own' 0), (.tmp 1, .di), (.tmp 9, .di), (.tmp 10, .di)])]
def partEqI_s2 [Lk] : (List Int × Int × Int × Int × Unit) → Option ((List Int × Int × Int × Int × Unit) ⊕ (List Int × Int × Int × Int × Unit) ⊕ Unit) := fun (a0, a1, a2, a3, _) =>
 match (ile a2 a3) with
 | true => match idx a0 a1 with
  | none => none
  | some x0 => match idx a0 a3 with
   | none => none
   | some x1 => match lessI ((dget a0 (dnat a1) 0), (dget a0 (dnat a3) 0), ()) with
    | none => none
    | some (y2, _) => match y2 with
     | true => some (.inl (a0, a1, a2, (IntKind.wrap .i64 (a3 - 1)), ()))
     | false => some (.inr (.inl (a0, a1, a2, a3, ())))
 | false => some (.inr (.inl (a0, a1, a2, a3, ())))
abbrev partEqI_i1 : Items := [(.obj 0, .own 3 (.int .i64)), (.tmp 0, .own' 0), (.tmp 1, .di), (.tmp 9, .di), (.tmp 10, .di)]
abbrev partEqI_o1 : Outs := [(.exit 2, [(.obj 0, .own 3 (.int .i64)), (.tmp 0, .own' 0), (.tmp 1, .di), (.tmp 9, .di), (.tmp 10, .di)])]
def partEqI_s1 [Lk] : (List Int × Int × Int × Int × Unit) → Option ((List Int × Int × Int × Int × Unit) ⊕ (List Int × Int × Int × Int × Unit) ⊕ Unit) := fun (a0, a1, a2, a3, _) =>
 match (ile a2 a3) with
 | true => match idx a0 a1 with
  | none => none
  | some x0 => match idx a0 a2 with
   | none => none
   | some x1 => match lessI ((dget a0 (dnat a1) 0), (dget a0 (dnat a2) 0), ()) with
    | none => none
    | some (y2, _) => match (!y2) with
     | true => some (.inl (a0, a1, (IntKind.wrap .i64 (a2 + 1)), a3, ()))
     | false => some (.inr (.inl (a0, a1, a2, a3, ())))
 | false => some (.inr (.inl (a0, a1, a2, a3, ())))
abbrev partEqI_i0 : Items := [(.obj 0, .own 3 (.int .i64)), (.tmp 0, .own' 0), (.tmp 1, .di), (.tmp 9, .di), (.tmp 10, .di)]
abbrev partEqI_o0 : Outs := [(.exit 0, [(.obj 0, .own 3 (.int .i64)), (.tmp 9, .di)])]
def partEqI_s0 [Lk] : (List Int × Int × Int × Int × Unit) → Option ((List Int × Int × Int × Int × Unit) ⊕ (List Int × Int × Unit) ⊕ Unit) := fun (a0, a1, a2, a3, _) =>
 match iterL partEqI_s1 many (a0, a1, a2, a3, ()) with
 | none => none
 | some r => match r with
  | .inl (o0, o1, o2, o3, _) => match iterL partEqI_s2 many (o0, o1, o2, o3, ()) with
   | none => none
   | some r => match r with
    | .inl (o4, o5, o6, o7, _) => match (ilt o7 o6) with
     | true => some (.inr (.inl (o4, o6, ())))
     | false => match idx o4 o7 with
      | none => none
      | some x8 => match idx o4 o6 with
       | none => none
       | some x9 => match idx o4 o6 with
        | none => none
        | some x10 => match idx (dset o4 (dnat o6) (dget o4 (dnat o7) 0)) o7 with
         | none => none
         | some x11 => some (.inl ((dset (dset o4 (dnat o6) (dget o4 (dnat o7) 0)) (dnat o7) (dget o4 (dnat o6) 0)), o5, (IntKind.wrap .i64 (o6 + 1)), (IntKind.wrap .i64 (o7 - 1)), ()))
    | .inr _ => none
  | .inr _ => none
def partEqI_d [Lk] : (List Int × Int × Int × Int × Unit) → Option ((List Int × Int × Unit)) := fun (a0, a1, a2, a3, _) =>
 match idx a0 a3 with
 | none => none
 | some x0 => match idx a0 a1 with
  | none => none
  | some x1 => match idx a0 a1 with
   | none => none
   | some x2 => match idx (dset a0 (dnat a1) (dget a0 (dnat a3) 0)) a3 with
    | none => none
    | some x3 => match iterL partEqI_s0 many ((dset (dset a0 (dnat a1) (dget a0 (dnat a3) 0)) (dnat a3) (dget a0 (dnat a1) 0)), a1, (IntKind.wrap .i64 (a1 + 1)), (IntKind.wrap .i64 (a2 - 1)), ()) with
     | none => none
     | some r => match r with
      | .inl (o4, o5, _) => some (o4, o5, ())
      | .inr _ => none
def partEqI [Lk] := fun v => Lk.f (partEqI_d v)
theorem partEqI_eq v : partEqI v = partEqI_d v := lock_eq _
-- slices.partitionOrdered[int]
abbrev partI_i : Items := [(.tmp 0, .own 3 (.int .i64)), (.tmp 1, .di), (.tmp 2, .di), (.tmp 3, .di)]
abbrev partI_o : Items := [(.obj 0, .own 3 (.int .i64)), (.tmp 0, .di), (.tmp 1, .dat .bool)]
abbrev partI_r : List RS := [.one, .one]
abbrev partI_i4 : Items := [(.obj 0, .own 3 (.int .i64)), (.tmp 0, .own' 0), (.tmp 1, .di), (.tmp 10, .di), (.tmp 11, .di)]
abbrev partI_o4 : Outs := [(.exit 8, [(.obj 0, .own 3 (.int .i64)), (.tmp 0, .own' 0), (.tmp 1, .di), (.tmp 10, .di), (.tmp 11, .di)])]
def partI_s4 [Lk] : (List Int × Int × Int × Int × Unit) → Option ((List Int × Int × Int × Int × Unit) ⊕ (List Int × Int × Int × Int × Unit) ⊕ Unit) := fun (a0, a1, a2, a3, _) =>
 match (ile a2 a3) with
 | true => match idx a0 a3 with
  | none => none
  | some x0 => match idx a0 a1 with
   | none => none
   | some x1 => match lessI ((dget a0 (dnat a3) 0), (dget a0 (dnat a1) 0), ()) with
    | none => none
    | some (y2, _) => match (!y2) with
     | true => some (.inl (a0, a1, a2, (IntKind.wrap .i64 (a3 - 1)), ()))
     | false => some (.inr (.inl (a0, a1, a2, a3, ())))
 | false => some (.inr (.inl (a0, a1, a2, a3, ())))
abbrev partI_i3 : Items := [(.obj 0, .own 3 (.int .i64)), (.tmp 0, .own' 0), (.tmp 1, .di), (.tmp 10, .di), (.tmp 11, .di)]
abbrev partI_o3 : Outs := [(.exit 6, [(.obj 0, .own 3 (.int .i64)), (.tmp 0, .own' 0), (.tmp 1, .di), (.tmp 10, .di), (.tmp 11, .di)])]
def partI_s3 [Lk] : (List Int × Int × Int × Int × Unit) → Option ((List Int × Int × Int × Int × Unit) ⊕ (List Int × Int × Int × Int × Unit) ⊕ Unit) := fun (a0, a1, a2, a3, _) =>
 match (ile a2 a3) with
 | true => match idx a0 a2 with
  | none => none
  | some x0 => match idx a0 a1 with
   | none => none
   | some x1 => match lessI ((dget a0 (dnat a2) 0), (dget a0 (dnat a1) 0), ()) with
    | none => none
    | some (y2, _) => match y2 with
     | true => some (.inl (a0, a1, (IntKind.wrap .i64 (a2 + 1)), a3, ()))
     | false => some (.inr (.inl (a0, a1, a2, a3, ())))
 | false => some (.inr (.inl (a0, a1, a2, a3, ())))
abbrev partI_i2 : Items := [(.obj 0, .own 3 (.int .i64)), (.tmp 0, .own' 0), (.tmp 1, .di), (.tmp 10, .di), (.tmp 11, .di)]
abbrev partI_o2 : Outs := [(.exit 4, [(.obj 0, .own 3 (.int .i64)), (.tmp 0, .own' 0), (.tmp 1, .di), (.tmp 11, .di)])]
def partI_s2 [Lk] : (List Int × Int × Int × Int × Unit) → Option ((List Int × Int × Int × Int × Unit) ⊕ (List Int × Int × Int × Unit) ⊕ Unit) := fun (a0, a1, a2, a3, _) =>
 match iterL partI_s3 many (a0, a1, a2, a3, ()) with
 | none => none
 | some r => match r with
  | .inl (o0, o1, o2, o3, _) => match iterL partI_s4 many (o0, o1, o2, o3, ()) with
   | none => none
   | some r => match r with
    | .inl (o4, o5, o6, o7, _) => match (ilt o7 o6) with
     | true => some (.inr (.inl (o4, o5, o7, ())))
     | false => match idx o4 o7 with
      | none => none
      | some x8 => match idx o4 o6 with
       | none => none
       | some x9 => match idx o4 o6 with
        | none => none
        | some x10 => match idx (dset o4 (dnat o6) (dget o4 (dnat o7) 0)) o7 with
         | none => none
         | some x11 => some (.inl ((dset (dset o4 (dnat o6) (dget o4 (dnat o7) 0)) (dnat o7) (dget o4 (dnat o6) 0)), o5, (IntKind.wrap .i64 (o6 + 1)), (IntKind.wrap .i64 (o7 - 1)), ()))
    | .inr _ => none
  | .inr _ => none
abbrev partI_i1 : Items := [(.obj 0, .own 3 (.int .i64)), (.tmp 0, .own' 0), (.tmp 1, .di), (.tmp 10, .di), (.tmp 11, .di)]
abbrev partI_o1 : Outs := [(.exit 2, [(.obj 0, .own 3 (.int .i64)), (.tmp 0, .own' 0), (.tmp 1, .di), (.tmp 10, .di), (.tmp 11, .di)])]
def partI_s1 [Lk] : (List Int × Int × Int × Int × Unit) → Option ((List Int × Int × Int × Int × Unit) ⊕ (List Int × Int × Int × Int × Unit) ⊕ Unit) := fun (a0, a1, a2, a3, _) =>
 match (ile a2 a3) with
 | true => match idx a0 a3 with
  | none => none
  | some x0 => match idx a0 a1 with
   | none => none
   | some x1 => match lessI ((dget a0 (dnat a3) 0), (dget a0 (dnat a1) 0), ()) with
    | none => none
    | some (y2, _) => match (!y2) with
     | true => some (.inl (a0, a1, a2, (IntKind.wrap .i64 (a3 - 1)), ()))
     | false => some (.inr (.inl (a0, a1, a2, a3, ())))
 | false => some (.inr (.inl (a0, a1, a2, a3, ())))
abbrev partI_i0 : Items := [(.obj 0, .own 3 (.int .i64)), (.tmp 0, .own' 0), (.tmp 1, .di), (.tmp 10, .di), (.tmp 11, .di)]
abbrev partI_o0 : Outs := [(.exit 0, [(.obj 0, .own 3 (.int .i64)), (.tmp 0, .own' 0), (.tmp 1, .di), (.tmp 10, .di), (.tmp 11, .di)])]
def partI_s0 [Lk] : (List Int × Int × Int × Int × Unit) → Option ((List Int × Int × Int × Int × Unit) ⊕ (List Int × Int × Int × Int × Unit) ⊕ Unit) := fun (a0, a1, a2, a3, _) =>
 match (ile a2 a3) with
 | true => match idx a0 a2 with
  | none => none
  | some x0 => match idx a0 a1 with
   | none => none
   | some x1 => match lessI ((dget a0 (dnat a2) 0), (dget a0 (dnat a1) 0), ()) with
    | none => none
    | some (y2, _) => match y2 with
     | true => some (.inl (a0, a1, (IntKind.wrap .i64 (a2 + 1)), a3, ()))
     | false => some (.inr (.inl (a0, a1, a2, a3, ())))
 | false => some (.inr (.inl (a0, a1, a2, a3, ())))
def partI_d [Lk] : (List Int × Int × Int × Int × Unit) → Option ((List Int × Int × Bool × Unit)) := fun (a0, a1, a2, a3, _) =>
 match idx a0 a3 with
 | none => none
 | some x0 => match idx a0 a1 with
  | none => none
  | some x1 => match idx a0 a1 with
   | none => none
   | some x2 => match idx (dset a0 (dnat a1) (dget a0 (dnat a3) 0)) a3 with
    | none => none
    | some x3 => match iterL partI_s0 many ((dset (dset a0 (dnat a1) (dget a0 (dnat a3) 0)) (dnat a3) (dget a0 (dnat a1) 0)), a1, (IntKind.wrap .i64 (a1 + 1)), (IntKind.wrap .i64 (a2 - 1)), ()) with
     | none => none
     | some r => match r with
      | .inl (o4, o5, o6, o7, _) => match iterL partI_s1 many (o4, o5, o6, o7, ()) with
       | none => none
       | some r => match r with
        | .inl (o8, o9, o10, o11, _) => match (ilt o11 o10) with
         | true => match idx o8 o9 with
          | none => none
          | some x12 => match idx o8 o11 with
           | none => none
           | some x13 => match idx o8 o11 with
            | none => none
            | some x14 => match idx (dset o8 (dnat o11) (dget o8 (dnat o9) 0)) o9 with
             | none => none
             | some x15 => some ((dset (dset o8 (dnat o11) (dget o8 (dnat o9) 0)) (dnat o9) (dget o8 (dnat o11) 0)), o11, true, ())
         | false => match idx o8 o11 with
          | none => none
          | some x16 => match idx o8 o10 with
           | none => none
           | some x17 => match idx o8 o10 with
            | none => none
            | some x18 => match idx (dset o8 (dnat o10) (dget o8 (dnat o11) 0)) o11 with
             | none => none
             | some x19 => match iterL partI_s2 many ((dset (dset o8 (dnat o10) (dget o8 (dnat o11) 0)) (dnat o11) (dget o8 (dnat o10) 0)), o9, (IntKind.wrap .i64 (o10 + 1)), (IntKind.wrap .i64 (o11 - 1)), ()) with
              | none => none
              | some r => match r with
               | .inl (o20, o21, o22, _) => match idx o20 o21 with
                | none => none
                | some x23 => match idx o20 o22 with
                 | none => none
                 | some x24 => match idx o20 o22 with
                  | none => none
                  | some x25 => match idx (dset o20 (dnat o22) (dget o20 (dnat o21) 0)) o21 with
                   | none => none
                   | some x26 => some ((dset (dset o20 (dnat o22) (dget o20 (dnat o21) 0)) (dnat o21) (dget o20 (dnat o22) 0)), o22, false, ())
               | .inr _ => none
        | .inr _ => none
      | .inr _ => none
def partI [Lk] := fun v => Lk.f (partI_d v)
theorem partI_eq v : partI v = partI_d v := lock_eq _
-- slices.pdqsortOrdered[int]
abbrev pdqI_i : Items := [(.tmp 0, .own 3 (.int .i64)), (.tmp 1, .di), (.tmp 2, .di), (.tmp 3, .di)]
abbrev pdqI_o : Items := [(.obj 0, .own 3 (.int .i64))]
abbrev pdqI_r : List RS := []
abbrev pdqI_i0 : Items := [(.obj 0, .own 3 (.int .i64)), (.tmp 0, .own' 0), (.tmp 1, .di), (.tmp 2, .di), (.tmp 3, .di), (.tmp 8, .dat .bool), (.tmp 9, .dat .bool)]
abbrev pdqI_o0 : Outs := [(.ret, [(.obj 0, .own 3 (.int .i64))])]
def pdqI_t [Lk] (self : (List Int × Int × Int × Int × Unit) → Option ((List Int × Unit))) (y7 : List Int) (a1 a2 p l : Int) (a4 a5 : Bool) : Option ((List Int × Int × Int × Int × Bool × Bool × Unit) ⊕ (List Int × Unit) ⊕ Unit) :=
 match (ilt 0 a1) with
 | true => match idx y7 (IntKind.wrap .i64 (a1 - 1)) with
  | none => none
  | some x9 => match idx y7 p with
   | none => none
   | some x10 => match lessI ((dget y7 (dnat (IntKind.wrap .i64 (a1 - 1))) 0), (dget y7 (dnat p) 0), ()) with
    | none => none
    | some (y11, _) => match (!y11) with
     | true => match partEqI (y7, a1, a2, p, ()) with
      | none => none
      | some (y12, y13, _) => some (.inl (y12, y13, a2, l, a4, a5, ()))
     | false => match partI (y7, a1, a2, p, ()) with
      | none => none
      | some (y14, y15, y16, _) => match quo? .i64 (IntKind.wrap .i64 (a2 - a1)) 8 with
       | none => none
       | some x17 => match (ilt (IntKind.wrap .i64 (y15 - a1)) (IntKind.wrap .i64 (a2 - y15))) with
        | true => match self (y14, a1, y15, l, ()) with
         | none => none
         | some (y18, _) => some (.inl (y18, (IntKind.wrap .i64 (y15 + 1)), a2, l, (ile x17 (IntKind.wrap .i64 (y15 - a1))), y16, ()))
        | false => match self (y14, (IntKind.wrap .i64 (y15 + 1)), a2, l, ()) with
         | none => none
         | some (y19, _) => some (.inl (y19, a1, y15, l, (ile x17 (IntKind.wrap .i64 (a2 - y15))), y16, ()))
 | false => match partI (y7, a1, a2, p, ()) with
  | none => none
  | some (y20, y21, y22, _) => match quo? .i64 (IntKind.wrap .i64 (a2 - a1)) 8 with
   | none => none
   | some x23 => match (ilt (IntKind.wrap .i64 (y21 - a1)) (IntKind.wrap .i64 (a2 - y21))) with
    | true => match self (y20, a1, y21, l, ()) with
     | none => none
     | some (y24, _) => some (.inl (y24, (IntKind.wrap .i64 (y21 + 1)), a2, l, (ile x23 (IntKind.wrap .i64 (y21 - a1))), y22, ()))
    | false => match self (y20, (IntKind.wrap .i64 (y21 + 1)), a2, l, ()) with
     | none => none
     | some (y25, _) => some (.inl (y25, a1, y21, l, (ile x23 (IntKind.wrap .i64 (a2 - y21))), y22, ()))
def pdqI_e [Lk] (self : (List Int × Int × Int × Int × Unit) → Option ((List Int × Unit))) (y6 : List Int) (a1 a2 p h l : Int) (a4 a5 : Bool) : Option ((List Int × Int × Int × Int × Bool × Bool × Unit) ⊕ (List Int × Unit) ⊕ Unit) :=
 match a4 with
 | true => match a5 with
  | true => match (ieq h 1) with
   | true => match partInsI (y6, a1, a2, ()) with
    | none => none
    | some (y7, y8, _) => match y8 with
     | true => some (.inr (.inl (y7, ())))
     | false => pdqI_t self y7 a1 a2 p l a4 a5
   | false => pdqI_t self y6 a1 a2 p l a4 a5
  | false => pdqI_t self y6 a1 a2 p l a4 a5
 | false => pdqI_t self y6 a1 a2 p l a4 a5
def pdqI_m [Lk] (self : (List Int × Int × Int × Int × Unit) → Option ((List Int × Unit))) (y2 : List Int) (a1 a2 l : Int) (a4 a5 : Bool) : Option ((List Int × Int × Int × Int × Bool × Bool × Unit) ⊕ (List Int × Unit) ⊕ Unit) :=
 match pivotI (y2, a1, a2, ()) with
 | none => none
 | some (y3, y4, y5, _) => match (ieq y5 2) with
  | true => match revI (y3, a1, a2, ()) with
   | none => none
   | some (y6, _) => pdqI_e self y6 a1 a2 (IntKind.wrap .i64 ((IntKind.wrap .i64 (a2 - 1)) - (IntKind.wrap .i64 (y4 - a1)))) 1 l a4 a5
  | false => pdqI_e self y3 a1 a2 y4 y5 l a4 a5
def pdqI_s0 [Lk] (self : (List Int × Int × Int × Int × Unit) → Option ((List Int × Unit))) : (List Int × Int × Int × Int × Bool × Bool × Unit) → Option ((List Int × Int × Int × Int × Bool × Bool × Unit) ⊕ (List Int × Unit) ⊕ Unit) := fun (a0, a1, a2, a3, a4, a5, _) =>
 match (ile (IntKind.wrap .i64 (a2 - a1)) 12) with
 | true => match insI (a0, a1, a2, ()) with
  | none => none
  | some (y0, _) => some (.inr (.inl (y0, ())))
 | false => match (ieq a3 0) with
  | true => match heapI (a0, a1, a2, ()) with
   | none => none
   | some (y1, _) => some (.inr (.inl (y1, ())))
  | false => match (!a4) with
   | true => match breakI (a0, a1, a2, ()) with
    | none => none
    | some (y2, _) => pdqI_m self y2 a1 a2 (IntKind.wrap .i64 (a3 - 1)) a4 a5
   | false => pdqI_m self a0 a1 a2 a3 a4 a5
def pdqI_d [Lk] (self : (List Int × Int × Int × Int × Unit) → Option ((List Int × Unit))) : (List Int × Int × Int × Int × Unit) → Option ((List Int × Unit)) := fun (a0, a1, a2, a3, _) =>
 match iterL (pdqI_s0 self) many (a0, a1, a2, a3, true, true, ()) with
 | none => none
 | some r => match r with
  | .inl (o0, _) => some (o0, ())
  | .inr _ => none
def pdqI_f [Lk] : Nat → (List Int × Int × Int × Int × Unit) → Option ((List Int × Unit))
 | 0, _ => none
 | n + 1, v => pdqI_d (pdqI_f n) v
def pdqI [Lk] := fun v => Lk.f (pdqI_f 100 v)
theorem pdqI_eq v : pdqI v = pdqI_f 100 v := lock_eq _
-- slices.Sort[[]int,int]
abbrev sortI_i : Items := [(.tmp 0, .own 3 (.int .i64))]
abbrev sortI_o : Items := [(.obj 0, .own 3 (.int .i64))]
abbrev sortI_r : List RS := []
def sortI_d [Lk] : (List Int × Unit) → Option ((List Int × Unit)) := fun (a0, _) =>
 match bitsLen ((IntKind.wrap .u64 (dlen a0)), ()) with
 | none => none
 | some (y0, _) => match pdqI (a0, 0, (dlen a0), y0, ()) with
  | none => none
  | some (y1, _) => some (y1, ())
def sortI [Lk] := fun v => Lk.f (sortI_d v)
theorem sortI_eq v : sortI v = sortI_d v := lock_eq _
-- slices.IndexFunc[[]int,int]
abbrev idxFuncI_there_i : Items := [(.tmp 0, .dat (.slice (.int .i64))), (.cap 1 0, .box 2), (.cell 0 0, .di), (.cell 0 1, .dat (.slice (.slice (.int .i64)))), (.tmp 1, .clo 43 [(0, 0)])]
abbrev idxFuncI_there_o : Items := [(.obj 0, .box 2), (.cell 0 0, .di), (.cell 0 1, .dat (.slice (.slice (.int .i64)))), (.tmp 0, .di)]
abbrev idxFuncI_there_r : List RS := [.one]
abbrev idxFuncI_there_i0 : Items := [(.obj 0, .box 2), (.cell 0 0, .di), (.cell 0 1, .dat (.slice (.slice (.int .i64)))), (.tmp 0, .dat (.slice (.int .i64))), (.tmp 1, .clo 43 [(0, 0)]), (.tmp 7, .di), (.tmp 8, .di)]
abbrev idxFuncI_there_o0 : Outs := [(.ret, [(.obj 0, .box 2), (.cell 0 0, .di), (.cell 0 1, .dat (.slice (.slice (.int .i64)))), (.tmp 4, .di)]), (.exit 0, [(.obj 0, .box 2), (.cell 0 0, .di), (.cell 0 1, .dat (.slice (.slice (.int .i64))))])]
def idxFuncI_there_s0 [Lk] : (Int × List (List Int) × List Int × Int × Int × Unit) → Option ((Int × List (List Int) × List Int × Int × Int × Unit) ⊕ (Int × List (List Int) × Int × Unit) ⊕ (Int × List (List Int) × Unit) ⊕ Unit) := fun (a0, a1, a2, a3, a4, _) =>
 match (ilt a4 a3) with
 | true => match idx a2 a4 with
  | none => none
  | some x0 => match (ilt x0 0) with
   | true => some (.inr (.inl (a0, a1, a4, ())))
   | false => match (ile a0 x0) with
    | true => some (.inr (.inl (a0, a1, a4, ())))
    | false => some (.inl (a0, a1, a2, a3, (IntKind.wrap .i64 (a4 + 1)), ()))
 | false => some (.inr (.inr (.inl (a0, a1, ()))))
def idxFuncI_there_d [Lk] : (List Int × Int × List (List Int) × Unit) → Option ((Int × List (List Int) × Int × Unit)) := fun (a0, a1, a2, _) =>
 match iterL idxFuncI_there_s0 many (a1, a2, a0, (dlen a0), 0, ()) with
 | none => none
 | some r => match r with
  | .inl (o0, o1, o2, _) => some (o0, o1, o2, ())
  | .inr r => match r with
   | .inl (o3, o4, _) => some (o3, o4, (-1 : Int), ())
   | .inr _ => none
def idxFuncI_there [Lk] := fun v => Lk.f (idxFuncI_there_d v)
theorem idxFuncI_there_eq v : idxFuncI_there v = idxFuncI_there_d v := lock_eq _
-- slices.ContainsFunc[[]int,int]
abbrev contFuncI_there_i : Items := [(.tmp 0, .dat (.slice (.int .i64))), (.cap 1 0, .box 2), (.cell 0 0, .di), (.cell 0 1, .dat (.slice (.slice (.int .i64)))), (.tmp 1, .clo 43 [(0, 0)])]
abbrev contFuncI_there_o : Items := [(.obj 0, .box 2), (.cell 0 0, .di), (.cell 0 1, .dat (.slice (.slice (.int .i64)))), (.tmp 0, .dat .bool)]
abbrev contFuncI_there_r : List RS := [.one]
def contFuncI_there_d [Lk] : (List Int × Int × List (List Int) × Unit) → Option ((Int × List (List Int) × Bool × Unit)) := fun (a0, a1, a2, _) =>
 match idxFuncI_there (a0, a1, a2, ()) with
 | none => none
 | some (y0, y1, y2, _) => some (y0, y1, (ile 0 y2), ())
def contFuncI_there [Lk] := fun v => Lk.f (contFuncI_there_d v)
theorem contFuncI_there_eq v : contFuncI_there v = contFuncI_there_d v := lock_eq _
-- archipelago/forest.there
abbrev fthere_i : Items := [(.tmp 0, .dat (.prod (.int .i64) (.prod (.slice (.slice (.int .i64))) .unit))), (.tmp 1, .dat (.slice (.int .i64)))]
abbrev fthere_o : Items := [(.tmp 0, .di)]
abbrev fthere_r : List RS := [.one]
def fthere_d [Lk] : ((Int × (List (List Int)) × Unit) × List Int × Unit) → Option ((Int × Unit)) := fun (a0, a1, _) =>
 match tright ((a0.1, (a0.2.1, ())), ()) with
 | none => none
 | some (y0, _) => match (!y0) with
  | true => some (1, ())
  | false => match contFuncI_there (a1, a0.1, a0.2.1, ()) with
   | none => none
   | some (y1, y2, y3, _) => match y3 with
    | true => some (10, ())
    | false => some (0, ())
def fthere [Lk] := fun v => Lk.f (fthere_d v)
theorem fthere_eq v : fthere v = fthere_d v := lock_eq _
-- archipelago/forest.ends
abbrev ends_i : Items := [(.tmp 0, .dat (.slice (.prod (.int .i64) (.prod (.int .i64) .unit))))]
abbrev ends_o : Items := [(.tmp 0, .own 3 (.int .i64))]
abbrev ends_r : List RS := [.one]
abbrev ends_i0 : Items := [(.tmp 3, .own 3 (.int .i64)), (.tmp 6, .dat (.slice (.prod (.int .i64) (.prod (.int .i64) .unit)))), (.tmp 7, .di), (.tmp 8, .di)]
abbrev ends_o0 : Outs := [(.exit 0, [(.tmp 3, .own 3 (.int .i64))])]
def ends_s0 [Lk] : (List Int × List (Int × Int × Unit) × Int × Int × Unit) → Option ((List Int × List (Int × Int × Unit) × Int × Int × Unit) ⊕ (List Int × Unit) ⊕ Unit) := fun (a0, a1, a2, a3, _) =>
 match (ilt a3 a2) with
 | true => match idx a1 a3 with
  | none => none
  | some x0 => match (fits ((dlen a0) + (dlen ([x0.1, x0.2.1] : List (Int))))) with
   | true => some (.inl ((dapp a0 ([x0.1, x0.2.1] : List (Int))), a1, a2, (IntKind.wrap .i64 (a3 + 1)), ()))
   | false => none
 | false => some (.inr (.inl (a0, ())))
def ends_d [Lk] : (List (Int × Int × Unit) × Unit) → Option ((List Int × Unit)) := fun (a0, _) =>
 match iterL ends_s0 many (([] : List (Int)), a0, (dlen a0), 0, ()) with
 | none => none
 | some r => match r with
  | .inl (o0, _) => some (o0, ())
  | .inr _ => none
def ends [Lk] := fun v => Lk.f (ends_d v)
theorem ends_eq v : ends v = ends_d v := lock_eq _
-- slices.IndexFunc[[]int,int]
abbrev idxFuncI_mem_i : Items := [(.tmp 0, .own 3 (.int .i64)), (.cap 1 0, .box 2), (.cell 1 0, .di), (.cell 1 1, .dat (.slice (.slice (.int .i64)))), (.tmp 1, .clo 29 [(1, 0)])]
abbrev idxFuncI_mem_o : Items := [(.obj 0, .own 3 (.int .i64)), (.obj 1, .box 2), (.cell 1 0, .di), (.cell 1 1, .dat (.slice (.slice (.int .i64)))), (.tmp 0, .di)]
abbrev idxFuncI_mem_r : List RS := [.one]
abbrev idxFuncI_mem_i0 : Items := [(.obj 0, .own 3 (.int .i64)), (.obj 1, .box 2), (.cell 1 0, .di), (.cell 1 1, .dat (.slice (.slice (.int .i64)))), (.tmp 0, .own' 0), (.tmp 1, .clo 29 [(1, 0)]), (.tmp 7, .di), (.tmp 8, .di)]
abbrev idxFuncI_mem_o0 : Outs := [(.ret, [(.obj 0, .own 3 (.int .i64)), (.obj 1, .box 2), (.cell 1 0, .di), (.cell 1 1, .dat (.slice (.slice (.int .i64)))), (.tmp 4, .di)]), (.exit 0, [(.obj 0, .own 3 (.int .i64)), (.obj 1, .box 2), (.cell 1 0, .di), (.cell 1 1, .dat (.slice (.slice (.int .i64))))])]
def idxFuncI_mem_s0 [Lk] : (List Int × Int × List (List Int) × Int × Int × Unit) → Option ((List Int × Int × List (List Int) × Int × Int × Unit) ⊕ (List Int × Int × List (List Int) × Int × Unit) ⊕ (List Int × Int × List (List Int) × Unit) ⊕ Unit) := fun (a0, a1, a2, a3, a4, _) =>
 match (ilt a4 a3) with
 | true => match idx a0 a4 with
  | none => none
  | some x0 => match (ile a1 (dget a0 (dnat a4) 0)) with
   | true => some (.inr (.inl (a0, a1, a2, a4, ())))
   | false => some (.inl (a0, a1, a2, a3, (IntKind.wrap .i64 (a4 + 1)), ()))
 | false => some (.inr (.inr (.inl (a0, a1, a2, ()))))
def idxFuncI_mem_d [Lk] : (List Int × Int × List (List Int) × Unit) → Option ((List Int × Int × List (List Int) × Int × Unit)) := fun (a0, a1, a2, _) =>
 match iterL idxFuncI_mem_s0 many (a0, a1, a2, (dlen a0), 0, ()) with
 | none => none
 | some r => match r with
  | .inl (o0, o1, o2, o3, _) => some (o0, o1, o2, o3, ())
  | .inr r => match r with
   | .inl (o4, o5, o6, _) => some (o4, o5, o6, (-1 : Int), ())
   | .inr _ => none
def idxFuncI_mem [Lk] := fun v => Lk.f (idxFuncI_mem_d v)
theorem idxFuncI_mem_eq v : idxFuncI_mem v = idxFuncI_mem_d v := lock_eq _
-- slices.DeleteFunc[[]int,int]
abbrev delFuncI_mem_i : Items := [(.tmp 0, .own 3 (.int .i64)), (.cap 1 0, .box 2), (.cell 1 0, .di), (.cell 1 1, .dat (.slice (.slice (.int .i64)))), (.tmp 1, .clo 29 [(1, 0)])]
abbrev delFuncI_mem_o : Items := [(.obj 0, .own 3 (.int .i64)), (.obj 1, .box 2), (.cell 1 0, .di), (.cell 1 1, .dat (.slice (.slice (.int .i64)))), (.tmp 0, .win' 0)]
abbrev delFuncI_mem_r : List RS := [.one]
abbrev delFuncI_mem_i0 : Items := [(.obj 0, .own 3 (.int .i64)), (.obj 1, .box 2), (.cell 1 0, .di), (.cell 1 1, .dat (.slice (.slice (.int .i64)))), (.tmp 0, .own' 0), (.tmp 1, .clo 29 [(1, 0)]), (.tmp 5, .di), (.tmp 6, .di)]
abbrev delFuncI_mem_o0 : Outs := [(.exit 0, [(.obj 0, .own 3 (.int .i64)), (.obj 1, .box 2), (.cell 1 0, .di), (.cell 1 1, .dat (.slice (.slice (.int .i64)))), (.tmp 0, .own' 0), (.tmp 5, .di)])]
def delFuncI_mem_s0 [Lk] : (List Int × Int × List (List Int) × Int × Int × Unit) → Option ((List Int × Int × List (List Int) × Int × Int × Unit) ⊕ (List Int × Int × List (List Int) × Int × Unit) ⊕ Unit) := fun (a0, a1, a2, a3, a4, _) =>
 match (ilt a4 (dlen a0)) with
 | true => match idx a0 a4 with
  | none => none
  | some x0 => match (!(ile a1 (dget a0 (dnat a4) 0))) with
   | true => match idx a0 a3 with
    | none => none
    | some x1 => some (.inl ((dset a0 (dnat a3) (dget a0 (dnat a4) 0)), a1, a2, (IntKind.wrap .i64 (a3 + 1)), (IntKind.wrap .i64 (a4 + 1)), ()))
   | false => some (.inl (a0, a1, a2, a3, (IntKind.wrap .i64 (a4 + 1)), ()))
 | false => some (.inr (.inl (a0, a1, a2, a3, ())))
def delFuncI_mem_d [Lk] : (List Int × Int × List (List Int) × Unit) → Option ((List Int × Int × List (List Int) × Int × Unit)) := fun (a0, a1, a2, _) =>
 match idxFuncI_mem (a0, a1, a2, ()) with
 | none => none
 | some (y0, y1, y2, y3, _) => match (ieq y3 (-1 : Int)) with
  | true => some (y0, y1, y2, (dlen y0), ())
  | false => match iterL delFuncI_mem_s0 many (y0, y1, y2, y3, (IntKind.wrap .i64 (y3 + 1)), ()) with
   | none => none
   | some r => match r with
    | .inl (o4, o5, o6, o7, _) => match subl o4 o7 (dlen o4) with
     | none => none
     | some x8 => match subl (dclear (dnat o7) (dnat (dlen x8)) 0 o4) 0 o7 with
      | none => none
      | some x9 => some ((dclear (dnat o7) (dnat (dlen x8)) 0 o4), o5, o6, (((dnat (dlen x9)) : Nat) : Int), ())
    | .inr _ => none
def delFuncI_mem [Lk] := fun v => Lk.f (delFuncI_mem_d v)
theorem delFuncI_mem_eq v : delFuncI_mem v = delFuncI_mem_d v := lock_eq _
-- archipelago/forest.Connected
abbrev fconn_i : Items := [(.tmp 0, .dat (.prod (.int .i64) (.prod (.slice (.slice (.int .i64))) .unit))), (.tmp 1, .di), (.tmp 2, .di)]
abbrev fconn_o : Items := [(.tmp 0, .dat .bool), (.tmp 1, .di)]
abbrev fconn_r : List RS := [.one, .one]
def fconn_d [Lk] : ((Int × (List (List Int)) × Unit) × Int × Int × Unit) → Option ((Bool × Int × Unit)) := fun (a0, a1, a2, _) =>
 match fthere ((a0.1, (a0.2.1, ())), ([a1, a2] : List (Int)), ()) with
 | none => none
 | some (y0, _) => match (!(ieq y0 0)) with
  | true => some (false, y0, ())
  | false => match tof ((a0.1, (a0.2.1, ())), a1, ()) with
   | none => none
   | some (y1, _) => match tof ((a0.1, (a0.2.1, ())), a2, ()) with
    | none => none
    | some (y2, _) => some ((ieq y1 y2), 0, ())
def fconn [Lk] := fun v => Lk.f (fconn_d v)
theorem fconn_eq v : fconn v = fconn_d v := lock_eq _
-- archipelago/forest.Least
abbrev fleast_i : Items := [(.tmp 0, .dat (.prod (.int .i64) (.prod (.slice (.slice (.int .i64))) .unit))), (.tmp 1, .di)]
abbrev fleast_o : Items := [(.tmp 0, .di), (.tmp 1, .di)]
abbrev fleast_r : List RS := [.one, .one]
def fleast_d [Lk] : ((Int × (List (List Int)) × Unit) × Int × Unit) → Option ((Int × Int × Unit)) := fun (a0, a1, _) =>
 match fthere ((a0.1, (a0.2.1, ())), ([a1] : List (Int)), ()) with
 | none => none
 | some (y0, _) => match (!(ieq y0 0)) with
  | true => some (0, y0, ())
  | false => match tof ((a0.1, (a0.2.1, ())), a1, ()) with
   | none => none
   | some (y1, _) => match idx a0.2.1 y1 with
    | none => none
    | some x2 => match idx x2 0 with
     | none => none
     | some x3 => some (x3, 0, ())
def fleast [Lk] := fun v => Lk.f (fleast_d v)
theorem fleast_eq v : fleast v = fleast_d v := lock_eq _
-- archipelago/forest.Size
abbrev fsize_i : Items := [(.tmp 0, .dat (.prod (.int .i64) (.prod (.slice (.slice (.int .i64))) .unit))), (.tmp 1, .di)]
abbrev fsize_o : Items := [(.tmp 0, .di), (.tmp 1, .di)]
abbrev fsize_r : List RS := [.one, .one]
def fsize_d [Lk] : ((Int × (List (List Int)) × Unit) × Int × Unit) → Option ((Int × Int × Unit)) := fun (a0, a1, _) =>
 match fthere ((a0.1, (a0.2.1, ())), ([a1] : List (Int)), ()) with
 | none => none
 | some (y0, _) => match (!(ieq y0 0)) with
  | true => some (0, y0, ())
  | false => match tof ((a0.1, (a0.2.1, ())), a1, ()) with
   | none => none
   | some (y1, _) => match idx a0.2.1 y1 with
    | none => none
    | some x2 => match quo? .i64 (IntKind.wrap .i64 ((dlen x2) + 2)) 3 with
     | none => none
     | some x3 => some (x3, 0, ())
def fsize [Lk] := fun v => Lk.f (fsize_d v)
theorem fsize_eq v : fsize v = fsize_d v := lock_eq _
-- archipelago/forest.Members
abbrev fmembers_i : Items := [(.tmp 0, .dat (.prod (.int .i64) (.prod (.slice (.slice (.int .i64))) .unit))), (.tmp 1, .di)]
abbrev fmembers_o : Items := [(.tmp 0, .own 3 (.int .i64)), (.tmp 1, .di)]
abbrev fmembers_r : List RS := [.one, .one]
def fmembers_d [Lk] : ((Int × (List (List Int)) × Unit) × Int × Unit) → Option ((List Int × Int × Unit)) := fun (a0, a1, _) =>
 match fthere ((a0.1, (a0.2.1, ())), ([a1] : List (Int)), ()) with
 | none => none
 | some (y0, _) => match (!(ieq y0 0)) with
  | true => some (([] : List (Int)), y0, ())
  | false => match tof ((a0.1, (a0.2.1, ())), a1, ()) with
   | none => none
   | some (y1, _) => match idx a0.2.1 y1 with
    | none => none
    | some x2 => match cloneF x2 with
     | none => none
     | some x3 => match delFuncI_mem (x3, a0.1, a0.2.1, ()) with
      | none => none
      | some (y4, y5, y6, y7, _) => match sortI ((dtake (dnat y7) y4), ()) with
       | none => none
       | some (y8, _) => some (y8, 0, ())
def fmembers [Lk] := fun v => Lk.f (fmembers_d v)
theorem fmembers_eq v : fmembers v = fmembers_d v := lock_eq _
-- archipelago/forest.each
abbrev eachLink_i : Items := [(.tmp 0, .dat (.prod (.int .i64) (.prod (.slice (.slice (.int .i64))) .unit))), (.tmp 1, .dat (.slice (.prod (.int .i64) (.prod (.int .i64) .unit)))), (.tmp 2, .clo 53 [])]
abbrev eachLink_o : Items := [(.tmp 0, .dat (.prod (.int .i64) (.prod (.slice (.slice (.int .i64))) .unit))), (.tmp 1, .own 4 .bool), (.tmp 2, .di)]
abbrev eachLink_r : List RS := [.one, .one, .one]
abbrev eachLink_i0 : Items := [(.tmp 2, .clo 53 []), (.tmp 3, .box 2), (.cell 0 0, .di), (.cell 0 1, .dat (.slice (.slice (.int .i64)))), (.tmp 6, .box 2), (.cell 1 0, .di), (.cell 1 1, .nil (.slice (.int .i64))), (.tmp 10, .own 4 .bool), (.tmp 23, .dat (.slice (.prod (.int .i64) (.prod (.int .i64) .unit)))), (.tmp 24, .di), (.tmp 25, .di)]
abbrev eachLink_o0 : Outs := [(.exit 0, [(.tmp 3, .box 2), (.cell 0 0, .di), (.cell 0 1, .dat (.slice (.slice (.int .i64)))), (.tmp 6, .box 2), (.cell 1 0, .di), (.cell 1 1, .nil (.slice (.int .i64))), (.tmp 10, .own 4 .bool)])]
def eachLink_s0 [Lk] : (Int × List (List Int) × Int × List Bool × List (Int × Int × Unit) × Int × Int × Unit) → Option ((Int × List (List Int) × Int × List Bool × List (Int × Int × Unit) × Int × Int × Unit) ⊕ (Int × List (List Int) × Int × List Bool × Unit) ⊕ Unit) := fun (a0, a1, a2, a3, a4, a5, a6, _) =>
 match (ilt a6 a5) with
 | true => match idx a4 a6 with
  | none => none
  | some x0 => match tlink ((a0, (a1, ())), x0.1, x0.2.1, ()) with
   | none => none
   | some (y1, y2, y3, _) => match (fits ((dlen a3) + (dlen ([(ieq y3 0)] : List (Bool))))) with
    | true => some (.inl (y1, y2, a2, (dapp a3 ([(ieq y3 0)] : List (Bool))), a4, a5, (IntKind.wrap .i64 (a6 + 1)), ()))
    | false => none
 | false => some (.inr (.inl (a0, a1, a2, a3, ())))
def eachLink_d [Lk] : ((Int × (List (List Int)) × Unit) × List (Int × Int × Unit) × Unit) → Option (((Int × (List (List Int)) × Unit) × List Bool × Int × Unit)) := fun (a0, a1, _) =>
 match ends (a1, ()) with
 | none => none
 | some (y0, _) => match fthere ((a0.1, (a0.2.1, ())), y0, ()) with
  | none => none
  | some (y1, _) => match (!(ieq y1 0)) with
   | true => some ((a0.1, (a0.2.1, ())), ([] : List (Bool)), y1, ())
   | false => match iterL eachLink_s0 many (a0.1, a0.2.1, 0, ([] : List (Bool)), a1, (dlen a1), 0, ()) with
    | none => none
    | some r => match r with
     | .inl (o2, o3, o4, o5, _) => some ((o2, (o3, ())), o5, 0, ())
     | .inr _ => none
def eachLink [Lk] := fun v => Lk.f (eachLink_d v)
theorem eachLink_eq v : eachLink v = eachLink_d v := lock_eq _
-- archipelago/forest.Links
abbrev flinks_i : Items := [(.tmp 0, .dat (.prod (.int .i64) (.prod (.slice (.slice (.int .i64))) .unit))), (.tmp 1, .dat (.slice (.prod (.int .i64) (.prod (.int .i64) .unit))))]
abbrev flinks_o : Items := [(.tmp 0, .dat (.prod (.int .i64) (.prod (.slice (.slice (.int .i64))) .unit))), (.tmp 1, .own 4 .bool), (.tmp 2, .di)]
abbrev flinks_r : List RS := [.one, .one, .one]
def flinks_d [Lk] : ((Int × (List (List Int)) × Unit) × List (Int × Int × Unit) × Unit) → Option (((Int × (List (List Int)) × Unit) × List Bool × Int × Unit)) := fun (a0, a1, _) =>
 match eachLink ((a0.1, (a0.2.1, ())), a1, ()) with
 | none => none
 | some (y0, y1, y2, _) => some ((y0.1, (y0.2.1, ())), y1, y2, ())
def flinks [Lk] := fun v => Lk.f (flinks_d v)
theorem flinks_eq v : flinks v = flinks_d v := lock_eq _
-- archipelago/forest.each
abbrev eachCut_i : Items := [(.tmp 0, .dat (.prod (.int .i64) (.prod (.slice (.slice (.int .i64))) .unit))), (.tmp 1, .dat (.slice (.prod (.int .i64) (.prod (.int .i64) .unit)))), (.tmp 2, .clo 41 [])]
abbrev eachCut_o : Items := [(.tmp 0, .dat (.prod (.int .i64) (.prod (.slice (.slice (.int .i64))) .unit))), (.tmp 1, .own 4 .bool), (.tmp 2, .di)]
abbrev eachCut_r : List RS := [.one, .one, .one]
abbrev eachCut_i0 : Items := [(.tmp 2, .clo 41 []), (.tmp 3, .box 2), (.cell 0 0, .di), (.cell 0 1, .dat (.slice (.slice (.int .i64)))), (.tmp 6, .box 2), (.cell 1 0, .di), (.cell 1 1, .nil (.slice (.int .i64))), (.tmp 10, .own 4 .bool), (.tmp 23, .dat (.slice (.prod (.int .i64) (.prod (.int .i64) .unit)))), (.tmp 24, .di), (.tmp 25, .di)]
abbrev eachCut_o0 : Outs := [(.exit 0, [(.tmp 3, .box 2), (.cell 0 0, .di), (.cell 0 1, .dat (.slice (.slice (.int .i64)))), (.tmp 6, .box 2), (.cell 1 0, .di), (.cell 1 1, .nil (.slice (.int .i64))), (.tmp 10, .own 4 .bool)])]
def eachCut_s0 [Lk] : (Int × List (List Int) × Int × List Bool × List (Int × Int × Unit) × Int × Int × Unit) → Option ((Int × List (List Int) × Int × List Bool × List (Int × Int × Unit) × Int × Int × Unit) ⊕ (Int × List (List Int) × Int × List Bool × Unit) ⊕ Unit) := fun (a0, a1, a2, a3, a4, a5, a6, _) =>
 match (ilt a6 a5) with
 | true => match idx a4 a6 with
  | none => none
  | some x0 => match tcut ((a0, (a1, ())), x0.1, x0.2.1, ()) with
   | none => none
   | some (y1, y2, y3, _) => match (fits ((dlen a3) + (dlen ([(ieq y3 0)] : List (Bool))))) with
    | true => some (.inl (y1, y2, a2, (dapp a3 ([(ieq y3 0)] : List (Bool))), a4, a5, (IntKind.wrap .i64 (a6 + 1)), ()))
    | false => none
 | false => some (.inr (.inl (a0, a1, a2, a3, ())))
def eachCut_d [Lk] : ((Int × (List (List Int)) × Unit) × List (Int × Int × Unit) × Unit) → Option (((Int × (List (List Int)) × Unit) × List Bool × Int × Unit)) := fun (a0, a1, _) =>
 match ends (a1, ()) with
 | none => none
 | some (y0, _) => match fthere ((a0.1, (a0.2.1, ())), y0, ()) with
  | none => none
  | some (y1, _) => match (!(ieq y1 0)) with
   | true => some ((a0.1, (a0.2.1, ())), ([] : List (Bool)), y1, ())
   | false => match iterL eachCut_s0 many (a0.1, a0.2.1, 0, ([] : List (Bool)), a1, (dlen a1), 0, ()) with
    | none => none
    | some r => match r with
     | .inl (o2, o3, o4, o5, _) => some ((o2, (o3, ())), o5, 0, ())
     | .inr _ => none
def eachCut [Lk] := fun v => Lk.f (eachCut_d v)
theorem eachCut_eq v : eachCut v = eachCut_d v := lock_eq _
-- archipelago/forest.Cuts
abbrev fcuts_i : Items := [(.tmp 0, .dat (.prod (.int .i64) (.prod (.slice (.slice (.int .i64))) .unit))), (.tmp 1, .dat (.slice (.prod (.int .i64) (.prod (.int .i64) .unit))))]
abbrev fcuts_o : Items := [(.tmp 0, .dat (.prod (.int .i64) (.prod (.slice (.slice (.int .i64))) .unit))), (.tmp 1, .own 4 .bool), (.tmp 2, .di)]
abbrev fcuts_r : List RS := [.one, .one, .one]
def fcuts_d [Lk] : ((Int × (List (List Int)) × Unit) × List (Int × Int × Unit) × Unit) → Option (((Int × (List (List Int)) × Unit) × List Bool × Int × Unit)) := fun (a0, a1, _) =>
 match eachCut ((a0.1, (a0.2.1, ())), a1, ()) with
 | none => none
 | some (y0, y1, y2, _) => some ((y0.1, (y0.2.1, ())), y1, y2, ())
def fcuts [Lk] := fun v => Lk.f (fcuts_d v)
theorem fcuts_eq v : fcuts v = fcuts_d v := lock_eq _
-- archipelago/forest.Of
abbrev fof_i : Items := [(.tmp 0, .di), (.tmp 1, .dat (.slice (.prod (.int .i64) (.prod (.int .i64) .unit))))]
abbrev fof_o : Items := [(.tmp 0, .dat (.prod (.int .i64) (.prod (.slice (.slice (.int .i64))) .unit))), (.tmp 1, .di)]
abbrev fof_r : List RS := [.one, .one]
def fof_d [Lk] : (Int × List (Int × Int × Unit) × Unit) → Option (((Int × (List (List Int)) × Unit) × Int × Unit)) := fun (a0, a1, _) =>
 match tmake (a0, ()) with
 | none => none
 | some (y0, y1, y2, _) => match (!(ieq y2 0)) with
  | true => some ((0, (([] : List (List Int)), ())), y2, ())
  | false => match flinks ((y0, (y1, ())), a1, ()) with
   | none => none
   | some (y3, y4, y5, _) => match (!(ieq y5 0)) with
    | true => some ((0, (([] : List (List Int)), ())), y5, ())
    | false => some ((y3.1, (y3.2.1, ())), 0, ())
def fof [Lk] := fun v => Lk.f (fof_d v)
theorem fof_eq v : fof v = fof_d v := lock_eq _
end
end Go.Pev
end
