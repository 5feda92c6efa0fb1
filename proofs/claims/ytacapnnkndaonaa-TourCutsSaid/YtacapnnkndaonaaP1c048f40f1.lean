/- A part of the proofs of this seat: G18M1 G18M2 G18M3. -/
import Derived.Test.YtacapnnkndaonaaPab90422aa7
set_option linter.unusedVariables false
set_option linter.unusedSimpArgs false
set_option linter.unusedSectionVars false
section
/- The models of functions: what they compute, as plain functions of leaves; each twice: locked, and to compute with (C). Printed by a program. -/
namespace Go.Pev
set_option maxRecDepth 100000
noncomputable section
attribute [local irreducible] fitsR fitsIR idxR sublR iltR ileR ieqR quoR remR shlR shrR cloneR iterO many IntKind.wrap dlen dset dget dapp dtake dcut drep dnat dclear imin imax lookupM storeM
-- archipelago/archipelagoref18.in
abbrev in18_i : Items := [(.tmp 0, .dat (.int .i64)), (.tmp 1, .dat (.int .i64))]
abbrev in18_o : Items := [(.tmp 0, .dat .bool)]
abbrev in18_r : List RS := [.one]
def in18_d : (Int × Int × Unit) → Option ((Bool × Unit)) := fun (a0, a1, _) =>
 match (ile 1 a0) with
 | true => match (ile a0 64) with
  | true => match (ile 0 a1) with
   | true => some ((ilt a1 a0), ())
   | false => some (false, ())
  | false => some (false, ())
 | false => some (false, ())
def in18 (v : (Int × Int × Unit)) : Option ((Bool × Unit)) := lock (in18_d v)
theorem in18_eq (v : (Int × Int × Unit)) : in18 v = in18_d v := lock_eq _
def in18_dC : (Int × Int × Unit) → Option ((Bool × Unit)) := fun (a0, a1, _) =>
 match (ileR 1 a0) with
 | true => match (ileR a0 64) with
  | true => match (ileR 0 a1) with
   | true => some ((iltR a1 a0), ())
   | false => some (false, ())
  | false => some (false, ())
 | false => some (false, ())
theorem in18_d_ceq : in18_d = in18_dC := by
 funext v
 simp only [in18_d, in18_dC, ilt_eqR, ile_eqR] <;> rfl
def in18C (v : denL (leaves in18_i)) : Option (denL (leaves in18_o)) := in18_dC v
theorem in18_ceq : in18 = in18C := by
 funext v
 rw [in18_eq, in18_d_ceq]; rfl
-- archipelago/archipelagoref18.Token
abbrev token18_i : Items := [(.tmp 0, .dat (.int .i64)), (.tmp 1, .dat (.int .i64))]
abbrev token18_o : Items := [(.tmp 0, .dat (.int .i64)), (.tmp 1, .dat (.int .i64)), (.tmp 2, .dat .bool), (.tmp 3, .dat .bool)]
abbrev token18_r : List RS := [.one, .one, .one, .one]
def token18_d : (Int × Int × Unit) → Option ((Int × Int × Bool × Bool × Unit)) := fun (a0, a1, _) =>
 match in18 (a0, a1, ()) with
 | none => none
 | some (y0, _) => match y0 with
  | true => some (a1, 0, false, true, ())
  | false => match (ilt a0 1) with
   | true => some (0, 0, false, false, ())
   | false => match (ilt 64 a0) with
    | true => some (0, 0, false, false, ())
    | false => match (ilt a1 a0) with
     | true => some (0, 0, false, false, ())
     | false => match (ile (IntKind.wrap .i64 (a0 + (IntKind.wrap .i64 (a0 * a0)))) a1) with
      | true => some (0, 0, false, false, ())
      | false => match quo? .i64 (IntKind.wrap .i64 (a1 - a0)) a0 with
       | none => none
       | some x1 => match rem? (IntKind.wrap .i64 (a1 - a0)) a0 with
        | none => none
        | some x2 => match (ieq x1 x2) with
         | true => some (0, 0, false, false, ())
         | false => some (x1, x2, true, true, ())
def token18 (v : (Int × Int × Unit)) : Option ((Int × Int × Bool × Bool × Unit)) := lock (token18_d v)
theorem token18_eq (v : (Int × Int × Unit)) : token18 v = token18_d v := lock_eq _
def token18_dC : (Int × Int × Unit) → Option ((Int × Int × Bool × Bool × Unit)) := fun (a0, a1, _) =>
 match in18C (a0, a1, ()) with
 | none => none
 | some (y0, _) => match y0 with
  | true => some (a1, 0, false, true, ())
  | false => match (iltR a0 1) with
   | true => some (0, 0, false, false, ())
   | false => match (iltR 64 a0) with
    | true => some (0, 0, false, false, ())
    | false => match (iltR a1 a0) with
     | true => some (0, 0, false, false, ())
     | false => match (ileR (IntKind.wrap .i64 (a0 + (IntKind.wrap .i64 (a0 * a0)))) a1) with
      | true => some (0, 0, false, false, ())
      | false => match quoR .i64 (IntKind.wrap .i64 (a1 - a0)) a0 with
       | none => none
       | some x1 => match remR (IntKind.wrap .i64 (a1 - a0)) a0 with
        | none => none
        | some x2 => match (ieqR x1 x2) with
         | true => some (0, 0, false, false, ())
         | false => some (x1, x2, true, true, ())
theorem token18_d_ceq : token18_d = token18_dC := by
 funext v
 simp only [token18_d, token18_dC, quo_eq, rem_eq, ilt_eqR, ile_eqR, ieq_eqR, in18_ceq] <;> rfl
def token18C (v : denL (leaves token18_i)) : Option (denL (leaves token18_o)) := token18_dC v
theorem token18_ceq : token18 = token18C := by
 funext v
 rw [token18_eq, token18_d_ceq]; rfl
-- archipelago/archipelagoref18.Vertex
abbrev vertex18_i : Items := [(.tmp 0, .dat (.int .i64)), (.tmp 1, .dat (.int .i64))]
abbrev vertex18_o : Items := [(.tmp 0, .dat (.int .i64))]
abbrev vertex18_r : List RS := [.one]
def vertex18_d : (Int × Int × Unit) → Option ((Int × Unit)) := fun (a0, a1, _) =>
 match in18 (a0, a1, ()) with
 | none => none
 | some (y0, _) => match (!y0) with
  | true => some ((-1 : Int), ())
  | false => some (a1, ())
def vertex18 (v : (Int × Int × Unit)) : Option ((Int × Unit)) := lock (vertex18_d v)
theorem vertex18_eq (v : (Int × Int × Unit)) : vertex18 v = vertex18_d v := lock_eq _
def vertex18_dC : (Int × Int × Unit) → Option ((Int × Unit)) := fun (a0, a1, _) =>
 match in18C (a0, a1, ()) with
 | none => none
 | some (y0, _) => match (!y0) with
  | true => some ((-1 : Int), ())
  | false => some (a1, ())
theorem vertex18_d_ceq : vertex18_d = vertex18_dC := by
 funext v
 simp only [vertex18_d, vertex18_dC, in18_ceq] <;> rfl
def vertex18C (v : denL (leaves vertex18_i)) : Option (denL (leaves vertex18_o)) := vertex18_dC v
theorem vertex18_ceq : vertex18 = vertex18C := by
 funext v
 rw [vertex18_eq, vertex18_d_ceq]; rfl
-- archipelago/archipelagoref18.Arc
abbrev arc18_i : Items := [(.tmp 0, .dat (.int .i64)), (.tmp 1, .dat (.int .i64)), (.tmp 2, .dat (.int .i64))]
abbrev arc18_o : Items := [(.tmp 0, .dat (.int .i64))]
abbrev arc18_r : List RS := [.one]
def arc18_d : (Int × Int × Int × Unit) → Option ((Int × Unit)) := fun (a0, a1, a2, _) =>
 match in18 (a0, a1, ()) with
 | none => none
 | some (y0, _) => match (!y0) with
  | true => some ((-1 : Int), ())
  | false => match in18 (a0, a2, ()) with
   | none => none
   | some (y1, _) => match (!y1) with
    | true => some ((-1 : Int), ())
    | false => match (ieq a1 a2) with
     | true => some ((-1 : Int), ())
     | false => some ((IntKind.wrap .i64 ((IntKind.wrap .i64 (a0 + (IntKind.wrap .i64 (a1 * a0)))) + a2)), ())
def arc18 (v : (Int × Int × Int × Unit)) : Option ((Int × Unit)) := lock (arc18_d v)
theorem arc18_eq (v : (Int × Int × Int × Unit)) : arc18 v = arc18_d v := lock_eq _
def arc18_dC : (Int × Int × Int × Unit) → Option ((Int × Unit)) := fun (a0, a1, a2, _) =>
 match in18C (a0, a1, ()) with
 | none => none
 | some (y0, _) => match (!y0) with
  | true => some ((-1 : Int), ())
  | false => match in18C (a0, a2, ()) with
   | none => none
   | some (y1, _) => match (!y1) with
    | true => some ((-1 : Int), ())
    | false => match (ieqR a1 a2) with
     | true => some ((-1 : Int), ())
     | false => some ((IntKind.wrap .i64 ((IntKind.wrap .i64 (a0 + (IntKind.wrap .i64 (a1 * a0)))) + a2)), ())
theorem arc18_d_ceq : arc18_d = arc18_dC := by
 funext v
 simp only [arc18_d, arc18_dC, ieq_eqR, in18_ceq] <;> rfl
def arc18C (v : denL (leaves arc18_i)) : Option (denL (leaves arc18_o)) := arc18_dC v
theorem arc18_ceq : arc18 = arc18C := by
 funext v
 rw [arc18_eq, arc18_d_ceq]; rfl
-- archipelago/archipelagoref18.Make
abbrev make18_i : Items := [(.tmp 0, .dat (.int .i64))]
abbrev make18_o : Items := [(.tmp 0, .dat (.int .i64)), (.tmp 1, .own 62 (.slice (.int .i64))), (.tmp 2, .dat (.int .i64))]
abbrev make18_r : List RS := [.agg 2, .one]
abbrev make18_i0 : Items := [(.tmp 0, .dat (.int .i64)), (.tmp 2, .box 2), (.cell 0 0, .dat (.int .i64)), (.cell 0 1, .nil (.slice (.int .i64))), (.tmp 4, .box 2), (.cell 1 0, .dat (.int .i64)), (.cell 1 1, .own 62 (.slice (.int .i64))), (.tmp 5, .dat (.int .i64))]
abbrev make18_o0 : Outs := [(.exit 0, [(.tmp 2, .box 2), (.cell 0 0, .dat (.int .i64)), (.cell 0 1, .nil (.slice (.int .i64))), (.tmp 4, .box 2), (.cell 1 0, .dat (.int .i64)), (.cell 1 1, .own 62 (.slice (.int .i64)))])]
def make18_s0 : (Int × Int × Int × List (List Int) × Int × Unit) → Option ((Int × Int × Int × List (List Int) × Int × Unit) ⊕ (Int × Int × List (List Int) × Unit) ⊕ Unit) := fun (a0, a1, a2, a3, a4, _) =>
 match (ilt a4 a0) with
 | true => match (fits ((dlen a3) + (dlen ([([a4] : List (Int))] : List (List Int))))) with
  | true => some (.inl (a0, a1, a2, (dapp a3 ([([a4] : List (Int))] : List (List Int))), (IntKind.wrap .i64 (a4 + 1)), ()))
  | false => none
 | false => some (.inr (.inl (a1, a2, a3, ())))
def make18_d : (Int × Unit) → Option ((Int × List (List Int) × Int × Unit)) := fun (a0, _) =>
 match (ilt a0 1) with
 | true => some (0, ([] : List (List Int)), 1, ())
 | false => match (ilt 64 a0) with
  | true => some (0, ([] : List (List Int)), 1, ())
  | false => match iterL make18_s0 many (a0, 0, a0, ([] : List (List Int)), 0, ()) with
   | none => none
   | some r => match r with
    | .inl (o0, o1, o2, _) => some (o1, o2, 0, ())
    | .inr _ => none
def make18 (v : (Int × Unit)) : Option ((Int × List (List Int) × Int × Unit)) := lock (make18_d v)
theorem make18_eq (v : (Int × Unit)) : make18 v = make18_d v := lock_eq _
def make18_s0C : (Int × Int × Int × List (List Int) × Int × Unit) → Option ((Int × Int × Int × List (List Int) × Int × Unit) ⊕ (Int × Int × List (List Int) × Unit) ⊕ Unit) := fun (a0, a1, a2, a3, a4, _) =>
 match (iltR a4 a0) with
 | true => match (fitsR ((dlen a3) + (dlen ([([a4] : List (Int))] : List (List Int))))) with
  | true => some (.inl (a0, a1, a2, (dapp a3 ([([a4] : List (Int))] : List (List Int))), (IntKind.wrap .i64 (a4 + 1)), ()))
  | false => none
 | false => some (.inr (.inl (a1, a2, a3, ())))
theorem make18_s0_ceq : make18_s0 = make18_s0C := by
 funext v
 simp only [make18_s0, make18_s0C, fits_eq, ilt_eqR] <;> rfl
def make18_dC : (Int × Unit) → Option ((Int × List (List Int) × Int × Unit)) := fun (a0, _) =>
 match (iltR a0 1) with
 | true => some (0, ([] : List (List Int)), 1, ())
 | false => match (iltR 64 a0) with
  | true => some (0, ([] : List (List Int)), 1, ())
  | false => match iterO make18_s0C many (a0, 0, a0, ([] : List (List Int)), 0, ()) with
   | none => none
   | some r => match r with
    | .inl (o0, o1, o2, _) => some (o1, o2, 0, ())
    | .inr _ => none
theorem make18_d_ceq : make18_d = make18_dC := by
 funext v
 simp only [make18_d, make18_dC, iterL_eq, ilt_eqR, make18_s0_ceq] <;> rfl
def make18C (v : denL (leaves make18_i)) : Option (denL (leaves make18_o)) := make18_dC v
theorem make18_ceq : make18 = make18C := by
 funext v
 rw [make18_eq, make18_d_ceq]; rfl
-- archipelago/archipelagoref18.Great
abbrev great18_i : Items := [(.tmp 0, .dat (.prod (.int .i64) (.prod (.slice (.slice (.int .i64))) .unit))), (.tmp 1, .dat (.int .i64))]
abbrev great18_o : Items := [(.tmp 0, .dat .bool)]
abbrev great18_r : List RS := [.one]
abbrev great18_i0 : Items := [(.tmp 1, .dat (.int .i64)), (.tmp 2, .box 2), (.cell 0 0, .dat (.int .i64)), (.cell 0 1, .dat (.slice (.slice (.int .i64)))), (.tmp 5, .dat (.int .i64)), (.tmp 6, .dat (.int .i64))]
abbrev great18_o0 : Outs := [(.exit 0, [(.tmp 1, .dat (.int .i64)), (.tmp 5, .dat (.int .i64))])]
def great18_s0 : (Int × Int × List (List Int) × Int × Int × Unit) → Option ((Int × Int × List (List Int) × Int × Int × Unit) ⊕ (Int × Int × Unit) ⊕ Unit) := fun (a0, a1, a2, a3, a4, _) =>
 match (ilt a4 (dlen a2)) with
 | true => match (ile a3 a0) with
  | true => match idx a2 a4 with
   | none => none
   | some x0 => some (.inl (a0, a1, a2, (IntKind.wrap .i64 (a3 + (dlen x0))), (IntKind.wrap .i64 (a4 + 1)), ()))
  | false => some (.inr (.inl (a0, a3, ())))
 | false => some (.inr (.inl (a0, a3, ())))
def great18_d : ((Int × (List (List Int)) × Unit) × Int × Unit) → Option ((Bool × Unit)) := fun (a0, a1, _) =>
 match iterL great18_s0 many (a1, a0.1, a0.2.1, (dlen a0.2.1), 0, ()) with
 | none => none
 | some r => match r with
  | .inl (o0, o1, _) => some ((ilt o0 o1), ())
  | .inr _ => none
def great18 (v : ((Int × (List (List Int)) × Unit) × Int × Unit)) : Option ((Bool × Unit)) := lock (great18_d v)
theorem great18_eq (v : ((Int × (List (List Int)) × Unit) × Int × Unit)) : great18 v = great18_d v := lock_eq _
def great18_s0C : (Int × Int × List (List Int) × Int × Int × Unit) → Option ((Int × Int × List (List Int) × Int × Int × Unit) ⊕ (Int × Int × Unit) ⊕ Unit) := fun (a0, a1, a2, a3, a4, _) =>
 match (iltR a4 (dlen a2)) with
 | true => match (ileR a3 a0) with
  | true => match idxR a2 a4 with
   | none => none
   | some x0 => some (.inl (a0, a1, a2, (IntKind.wrap .i64 (a3 + (dlen x0))), (IntKind.wrap .i64 (a4 + 1)), ()))
  | false => some (.inr (.inl (a0, a3, ())))
 | false => some (.inr (.inl (a0, a3, ())))
theorem great18_s0_ceq : great18_s0 = great18_s0C := by
 funext v
 simp only [great18_s0, great18_s0C, idx_eq, ilt_eqR, ile_eqR] <;> rfl
def great18_dC : ((Int × (List (List Int)) × Unit) × Int × Unit) → Option ((Bool × Unit)) := fun (a0, a1, _) =>
 match iterO great18_s0C many (a1, a0.1, a0.2.1, (dlen a0.2.1), 0, ()) with
 | none => none
 | some r => match r with
  | .inl (o0, o1, _) => some ((iltR o0 o1), ())
  | .inr _ => none
theorem great18_d_ceq : great18_d = great18_dC := by
 funext v
 simp only [great18_d, great18_dC, iterL_eq, ilt_eqR, great18_s0_ceq] <;> rfl
def great18C (v : denL (leaves great18_i)) : Option (denL (leaves great18_o)) := great18_dC v
theorem great18_ceq : great18 = great18C := by
 funext v
 rw [great18_eq, great18_d_ceq]; rfl
-- archipelago/archipelagoref18.stands
abbrev stands18_i : Items := [(.tmp 0, .dat (.int .i64)), (.tmp 1, .dat (.int .i64)), (.tmp 2, .dat (.int .i64))]
abbrev stands18_o : Items := [(.tmp 0, .dat .bool)]
abbrev stands18_r : List RS := [.one]
def stands18_d : (Int × Int × Int × Unit) → Option ((Bool × Unit)) := fun (a0, a1, a2, _) =>
 match token18 (a0, a1, ()) with
 | none => none
 | some (y0, y1, y2, y3, _) => match y3 with
  | true => match (!y2) with
   | true => match (ieq y0 a2) with
    | true => some (true, ())
    | false => match y2 with
     | true => some ((ieq y1 a2), ())
     | false => some (false, ())
   | false => match y2 with
    | true => some ((ieq y1 a2), ())
    | false => some (false, ())
  | false => some (false, ())
def stands18 (v : (Int × Int × Int × Unit)) : Option ((Bool × Unit)) := lock (stands18_d v)
theorem stands18_eq (v : (Int × Int × Int × Unit)) : stands18 v = stands18_d v := lock_eq _
def stands18_dC : (Int × Int × Int × Unit) → Option ((Bool × Unit)) := fun (a0, a1, a2, _) =>
 match token18C (a0, a1, ()) with
 | none => none
 | some (y0, y1, y2, y3, _) => match y3 with
  | true => match (!y2) with
   | true => match (ieqR y0 a2) with
    | true => some (true, ())
    | false => match y2 with
     | true => some ((ieqR y1 a2), ())
     | false => some (false, ())
   | false => match y2 with
    | true => some ((ieqR y1 a2), ())
    | false => some (false, ())
  | false => some (false, ())
theorem stands18_d_ceq : stands18_d = stands18_dC := by
 funext v
 simp only [stands18_d, stands18_dC, ieq_eqR, token18_ceq] <;> rfl
def stands18C (v : denL (leaves stands18_i)) : Option (denL (leaves stands18_o)) := stands18_dC v
theorem stands18_ceq : stands18 = stands18C := by
 funext v
 rw [stands18_eq, stands18_d_ceq]; rfl
-- archipelago/archipelagoref18.tree
abbrev tree18_i : Items := [(.tmp 0, .dat (.int .i64)), (.tmp 1, .dat (.slice (.int .i64)))]
abbrev tree18_o : Items := [(.tmp 0, .dat .bool)]
abbrev tree18_r : List RS := [.one]
abbrev tree18_i2 : Items := [(.tmp 0, .dat (.int .i64)), (.tmp 1, .own 3 (.int .i64)), (.tmp 6, .dat (.int .i64)), (.tmp 14, .own 3 (.int .i64)), (.tmp 15, .dat (.int .i64)), (.tmp 27, .dat .bool), (.tmp 28, .dat .bool), (.tmp 64, .dat .bool), (.tmp 67, .dat .bool), (.tmp 70, .dat (.int .i64)), (.tmp 71, .dat (.int .i64)), (.tmp 72, .dat .bool), (.tmp 75, .dat (.int .i64)), (.tmp 76, .dat (.int .i64)), (.tmp 77, .dat (.int .i64)), (.tmp 78, .dat (.int .i64)), (.tmp 79, .dat (.int .i64)), (.tmp 80, .dat .bool), (.tmp 83, .dat (.int .i64)), (.tmp 84, .own' 0), (.tmp 85, .dat (.int .i64)), (.tmp 86, .own' 0), (.tmp 87, .dat (.int .i64)), (.tmp 88, .dat (.int .i64)), (.tmp 89, .dat (.int .i64)), (.tmp 90, .own' 0), (.tmp 91, .dat (.int .i64)), (.tmp 92, .dat (.int .i64)), (.tmp 94, .dat (.int .i64)), (.tmp 95, .dat (.int .i64)), (.tmp 96, .dat .bool)]
abbrev tree18_o2 : Outs := [(.exit 4, [(.tmp 0, .dat (.int .i64)), (.tmp 6, .dat (.int .i64)), (.tmp 14, .own 3 (.int .i64)), (.tmp 27, .dat .bool), (.tmp 28, .dat .bool), (.tmp 64, .dat .bool), (.tmp 67, .dat .bool), (.tmp 70, .dat (.int .i64)), (.tmp 71, .dat (.int .i64)), (.tmp 72, .dat .bool), (.tmp 75, .dat (.int .i64)), (.tmp 76, .dat (.int .i64)), (.tmp 77, .dat (.int .i64)), (.tmp 78, .dat (.int .i64)), (.tmp 79, .dat (.int .i64)), (.tmp 80, .dat .bool), (.tmp 83, .dat (.int .i64)), (.tmp 84, .own 3 (.int .i64)), (.tmp 85, .dat (.int .i64)), (.tmp 86, .own' 1), (.tmp 87, .dat (.int .i64)), (.tmp 88, .dat (.int .i64)), (.tmp 89, .dat (.int .i64)), (.tmp 90, .own' 1), (.tmp 91, .dat (.int .i64)), (.tmp 92, .dat (.int .i64)), (.tmp 94, .dat (.int .i64)), (.tmp 95, .dat (.int .i64)), (.tmp 96, .dat .bool)])]
def tree18_s2 : (Int × List Int × Int × List Int × Int × Bool × Bool × Bool × Bool × Int × Int × Bool × Int × Int × Int × Int × Int × Bool × Int × Int × Int × Int × Int × Int × Int × Int × Int × Bool × Unit) → Option ((Int × List Int × Int × List Int × Int × Bool × Bool × Bool × Bool × Int × Int × Bool × Int × Int × Int × Int × Int × Bool × Int × Int × Int × Int × Int × Int × Int × Int × Int × Bool × Unit) ⊕ (Int × Int × List Int × Bool × Bool × Bool × Bool × Int × Int × Bool × Int × Int × Int × Int × Int × Bool × Int × List Int × Int × Int × Int × Int × Int × Int × Int × Int × Bool × Unit) ⊕ Unit) := fun (a0, a1, a2, a3, a4, a5, a6, a7, a8, a9, a10, a11, a12, a13, a14, a15, a16, a17, a18, a19, a20, a21, a22, a23, a24, a25, a26, a27, _) =>
 match (ilt a4 (dlen a1)) with
 | true => match rem? (IntKind.wrap .i64 (a2 + a4)) (dlen a1) with
  | none => none
  | some x0 => match idx a1 x0 with
   | none => none
   | some x1 => match (fits ((dlen a3) + (dlen ([(dget a1 (dnat x0) 0)] : List (Int))))) with
    | true => some (.inl (a0, a1, a2, (dapp a3 ([(dget a1 (dnat x0) 0)] : List (Int))), (IntKind.wrap .i64 (a4 + 1)), a5, a6, a7, a8, a9, a10, a11, a12, a13, a14, a15, a16, a17, a18, a19, a20, a21, a22, a23, a24, a25, a26, a27, ()))
    | false => none
 | false => some (.inr (.inl (a0, a2, a3, a5, a6, a7, a8, a9, a10, a11, a12, a13, a14, a15, a16, a17, a18, a1, a19, a20, a21, a22, a23, a24, a25, a26, a27, ())))
abbrev tree18_i1 : Items := [(.tmp 0, .dat (.int .i64)), (.tmp 1, .own 3 (.int .i64)), (.tmp 5, .dat .bool), (.tmp 6, .dat (.int .i64))]
abbrev tree18_o1 : Outs := [(.exit 2, [(.tmp 0, .dat (.int .i64)), (.tmp 1, .own 3 (.int .i64)), (.tmp 5, .dat .bool)])]
def tree18_s1 : (Int × List Int × Bool × Int × Unit) → Option ((Int × List Int × Bool × Int × Unit) ⊕ (Int × List Int × Bool × Unit) ⊕ Unit) := fun (a0, a1, a2, a3, _) =>
 match (ilt a3 (dlen a1)) with
 | true => match (!a2) with
  | true => match idx a1 a3 with
   | none => none
   | some x0 => match rem? (IntKind.wrap .i64 (a3 + 1)) (dlen a1) with
    | none => none
    | some x1 => match idx a1 x1 with
     | none => none
     | some x2 => match rem? (IntKind.wrap .i64 (a3 + 2)) (dlen a1) with
      | none => none
      | some x3 => match idx a1 x3 with
       | none => none
       | some x4 => match token18 (a0, (dget a1 (dnat a3) 0), ()) with
        | none => none
        | some (y5, y6, y7, y8, _) => match (ile 4 (dlen a1)) with
         | true => match y8 with
          | true => match y7 with
           | true => match (ieq (dget a1 (dnat x1) 0) y6) with
            | true => match arc18 (a0, y6, y5, ()) with
             | none => none
             | some (y9, _) => match (ieq (dget a1 (dnat x3) 0) y9) with
              | true => match rem? (IntKind.wrap .i64 ((IntKind.wrap .i64 (a3 + (dlen a1))) - 1)) (dlen a1) with
               | none => none
               | some x10 => match idx a1 x10 with
                | none => none
                | some x11 => match stands18 (a0, (dget a1 (dnat x10) 0), y5, ()) with
                 | none => none
                 | some (y12, _) => match y12 with
                  | true => match iterL tree18_s2 many (a0, a1, a3, ([] : List (Int)), 3, a2, (!a2), y8, y7, (dget a1 (dnat x1) 0), y6, (ieq (dget a1 (dnat x1) 0) y6), (dget a1 (dnat x3) 0), a0, y6, y5, y9, (ieq (dget a1 (dnat x3) 0) y9), a0, a3, (dlen a1), (IntKind.wrap .i64 (a3 + (dlen a1))), (IntKind.wrap .i64 ((IntKind.wrap .i64 (a3 + (dlen a1))) - 1)), (dlen a1), x10, (dget a1 (dnat x10) 0), y5, y12, ()) with
                   | none => none
                   | some r => match r with
                    | .inl (o13, o14, o15, o16, o17, o18, o19, o20, o21, o22, o23, o24, o25, o26, o27, o28, o29, o30, o31, o32, o33, o34, o35, o36, o37, o38, o39, _) => some (.inl (o13, o15, true, (IntKind.wrap .i64 (o14 + 1)), ()))
                    | .inr _ => none
                  | false => some (.inl (a0, a1, a2, (IntKind.wrap .i64 (a3 + 1)), ()))
              | false => some (.inl (a0, a1, a2, (IntKind.wrap .i64 (a3 + 1)), ()))
            | false => some (.inl (a0, a1, a2, (IntKind.wrap .i64 (a3 + 1)), ()))
           | false => some (.inl (a0, a1, a2, (IntKind.wrap .i64 (a3 + 1)), ()))
          | false => some (.inl (a0, a1, a2, (IntKind.wrap .i64 (a3 + 1)), ()))
         | false => some (.inl (a0, a1, a2, (IntKind.wrap .i64 (a3 + 1)), ()))
  | false => some (.inr (.inl (a0, a1, a2, ())))
 | false => some (.inr (.inl (a0, a1, a2, ())))
abbrev tree18_i0 : Items := [(.tmp 0, .dat (.int .i64)), (.tmp 1, .own 3 (.int .i64))]
abbrev tree18_o0 : Outs := [(.ret, [(.tmp 4, .dat .bool)]), (.exit 0, [(.tmp 0, .dat (.int .i64)), (.tmp 1, .own 3 (.int .i64))])]
def tree18_s0 : (Int × List Int × Unit) → Option ((Int × List Int × Unit) ⊕ (Bool × Unit) ⊕ (Int × List Int × Unit) ⊕ Unit) := fun (a0, a1, _) =>
 match (ilt 1 (dlen a1)) with
 | true => match iterL tree18_s1 many (a0, a1, false, 0, ()) with
  | none => none
  | some r => match r with
   | .inl (o0, o1, o2, _) => match (!o2) with
    | true => some (.inr (.inl (false, ())))
    | false => some (.inl (o0, o1, ()))
   | .inr _ => none
 | false => some (.inr (.inr (.inl (a0, a1, ()))))
def tree18_d : (Int × List Int × Unit) → Option ((Bool × Unit)) := fun (a0, a1, _) =>
 match (fits ((dlen ([] : List (Int))) + (dlen a1))) with
 | true => match iterL tree18_s0 many (a0, (dapp ([] : List (Int)) a1), ()) with
  | none => none
  | some r => match r with
   | .inl (o0, _) => some (o0, ())
   | .inr r => match r with
    | .inl (o1, o2, _) => match (ieq (dlen o2) 1) with
     | true => match idx o2 0 with
      | none => none
      | some x3 => match in18 (o1, (dget o2 0 0), ()) with
       | none => none
       | some (y4, _) => some (y4, ())
     | false => some (false, ())
    | .inr _ => none
 | false => none
def tree18 (v : (Int × List Int × Unit)) : Option ((Bool × Unit)) := lock (tree18_d v)
theorem tree18_eq (v : (Int × List Int × Unit)) : tree18 v = tree18_d v := lock_eq _
def tree18_s2C : (Int × List Int × Int × List Int × Int × Bool × Bool × Bool × Bool × Int × Int × Bool × Int × Int × Int × Int × Int × Bool × Int × Int × Int × Int × Int × Int × Int × Int × Int × Bool × Unit) → Option ((Int × List Int × Int × List Int × Int × Bool × Bool × Bool × Bool × Int × Int × Bool × Int × Int × Int × Int × Int × Bool × Int × Int × Int × Int × Int × Int × Int × Int × Int × Bool × Unit) ⊕ (Int × Int × List Int × Bool × Bool × Bool × Bool × Int × Int × Bool × Int × Int × Int × Int × Int × Bool × Int × List Int × Int × Int × Int × Int × Int × Int × Int × Int × Bool × Unit) ⊕ Unit) := fun (a0, a1, a2, a3, a4, a5, a6, a7, a8, a9, a10, a11, a12, a13, a14, a15, a16, a17, a18, a19, a20, a21, a22, a23, a24, a25, a26, a27, _) =>
 match (iltR a4 (dlen a1)) with
 | true => match remR (IntKind.wrap .i64 (a2 + a4)) (dlen a1) with
  | none => none
  | some x0 => match idxR a1 x0 with
   | none => none
   | some x1 => match (fitsR ((dlen a3) + (dlen ([(dget a1 (dnat x0) 0)] : List (Int))))) with
    | true => some (.inl (a0, a1, a2, (dapp a3 ([(dget a1 (dnat x0) 0)] : List (Int))), (IntKind.wrap .i64 (a4 + 1)), a5, a6, a7, a8, a9, a10, a11, a12, a13, a14, a15, a16, a17, a18, a19, a20, a21, a22, a23, a24, a25, a26, a27, ()))
    | false => none
 | false => some (.inr (.inl (a0, a2, a3, a5, a6, a7, a8, a9, a10, a11, a12, a13, a14, a15, a16, a17, a18, a1, a19, a20, a21, a22, a23, a24, a25, a26, a27, ())))
theorem tree18_s2_ceq : tree18_s2 = tree18_s2C := by
 funext v
 simp only [tree18_s2, tree18_s2C, idx_eq, fits_eq, rem_eq, ilt_eqR] <;> rfl
def tree18_s1C : (Int × List Int × Bool × Int × Unit) → Option ((Int × List Int × Bool × Int × Unit) ⊕ (Int × List Int × Bool × Unit) ⊕ Unit) := fun (a0, a1, a2, a3, _) =>
 match (iltR a3 (dlen a1)) with
 | true => match (!a2) with
  | true => match idxR a1 a3 with
   | none => none
   | some x0 => match remR (IntKind.wrap .i64 (a3 + 1)) (dlen a1) with
    | none => none
    | some x1 => match idxR a1 x1 with
     | none => none
     | some x2 => match remR (IntKind.wrap .i64 (a3 + 2)) (dlen a1) with
      | none => none
      | some x3 => match idxR a1 x3 with
       | none => none
       | some x4 => match token18C (a0, (dget a1 (dnat a3) 0), ()) with
        | none => none
        | some (y5, y6, y7, y8, _) => match (ileR 4 (dlen a1)) with
         | true => match y8 with
          | true => match y7 with
           | true => match (ieqR (dget a1 (dnat x1) 0) y6) with
            | true => match arc18C (a0, y6, y5, ()) with
             | none => none
             | some (y9, _) => match (ieqR (dget a1 (dnat x3) 0) y9) with
              | true => match remR (IntKind.wrap .i64 ((IntKind.wrap .i64 (a3 + (dlen a1))) - 1)) (dlen a1) with
               | none => none
               | some x10 => match idxR a1 x10 with
                | none => none
                | some x11 => match stands18C (a0, (dget a1 (dnat x10) 0), y5, ()) with
                 | none => none
                 | some (y12, _) => match y12 with
                  | true => match iterO tree18_s2C many (a0, a1, a3, ([] : List (Int)), 3, a2, (!a2), y8, y7, (dget a1 (dnat x1) 0), y6, (ieqR (dget a1 (dnat x1) 0) y6), (dget a1 (dnat x3) 0), a0, y6, y5, y9, (ieqR (dget a1 (dnat x3) 0) y9), a0, a3, (dlen a1), (IntKind.wrap .i64 (a3 + (dlen a1))), (IntKind.wrap .i64 ((IntKind.wrap .i64 (a3 + (dlen a1))) - 1)), (dlen a1), x10, (dget a1 (dnat x10) 0), y5, y12, ()) with
                   | none => none
                   | some r => match r with
                    | .inl (o13, o14, o15, o16, o17, o18, o19, o20, o21, o22, o23, o24, o25, o26, o27, o28, o29, o30, o31, o32, o33, o34, o35, o36, o37, o38, o39, _) => some (.inl (o13, o15, true, (IntKind.wrap .i64 (o14 + 1)), ()))
                    | .inr _ => none
                  | false => some (.inl (a0, a1, a2, (IntKind.wrap .i64 (a3 + 1)), ()))
              | false => some (.inl (a0, a1, a2, (IntKind.wrap .i64 (a3 + 1)), ()))
            | false => some (.inl (a0, a1, a2, (IntKind.wrap .i64 (a3 + 1)), ()))
           | false => some (.inl (a0, a1, a2, (IntKind.wrap .i64 (a3 + 1)), ()))
          | false => some (.inl (a0, a1, a2, (IntKind.wrap .i64 (a3 + 1)), ()))
         | false => some (.inl (a0, a1, a2, (IntKind.wrap .i64 (a3 + 1)), ()))
  | false => some (.inr (.inl (a0, a1, a2, ())))
 | false => some (.inr (.inl (a0, a1, a2, ())))
theorem tree18_s1_ceq : tree18_s1 = tree18_s1C := by
 funext v
 simp only [tree18_s1, tree18_s1C, idx_eq, rem_eq, iterL_eq, ilt_eqR, ile_eqR, ieq_eqR, token18_ceq, arc18_ceq, stands18_ceq, tree18_s2_ceq] <;> rfl
def tree18_s0C : (Int × List Int × Unit) → Option ((Int × List Int × Unit) ⊕ (Bool × Unit) ⊕ (Int × List Int × Unit) ⊕ Unit) := fun (a0, a1, _) =>
 match (iltR 1 (dlen a1)) with
 | true => match iterO tree18_s1C many (a0, a1, false, 0, ()) with
  | none => none
  | some r => match r with
   | .inl (o0, o1, o2, _) => match (!o2) with
    | true => some (.inr (.inl (false, ())))
    | false => some (.inl (o0, o1, ()))
   | .inr _ => none
 | false => some (.inr (.inr (.inl (a0, a1, ()))))
theorem tree18_s0_ceq : tree18_s0 = tree18_s0C := by
 funext v
 simp only [tree18_s0, tree18_s0C, iterL_eq, ilt_eqR, tree18_s1_ceq] <;> rfl
def tree18_dC : (Int × List Int × Unit) → Option ((Bool × Unit)) := fun (a0, a1, _) =>
 match (fitsR ((dlen ([] : List (Int))) + (dlen a1))) with
 | true => match iterO tree18_s0C many (a0, (dapp ([] : List (Int)) a1), ()) with
  | none => none
  | some r => match r with
   | .inl (o0, _) => some (o0, ())
   | .inr r => match r with
    | .inl (o1, o2, _) => match (ieqR (dlen o2) 1) with
     | true => match idxR o2 0 with
      | none => none
      | some x3 => match in18C (o1, (dget o2 0 0), ()) with
       | none => none
       | some (y4, _) => some (y4, ())
     | false => some (false, ())
    | .inr _ => none
 | false => none
theorem tree18_d_ceq : tree18_d = tree18_dC := by
 funext v
 simp only [tree18_d, tree18_dC, idx_eq, fits_eq, iterL_eq, ieq_eqR, in18_ceq, tree18_s0_ceq] <;> rfl
def tree18C (v : denL (leaves tree18_i)) : Option (denL (leaves tree18_o)) := tree18_dC v
theorem tree18_ceq : tree18 = tree18C := by
 funext v
 rw [tree18_eq, tree18_d_ceq]; rfl
-- archipelago/archipelagoref13.Place
abbrev place13_i : Items := [(.tmp 0, .dat (.slice (.int .i64))), (.tmp 1, .dat (.int .i64))]
abbrev place13_o : Items := [(.tmp 0, .dat (.int .i64))]
abbrev place13_r : List RS := [.one]
abbrev place13_i0 : Items := [(.tmp 0, .dat (.slice (.int .i64))), (.tmp 1, .dat (.int .i64)), (.tmp 5, .dat (.int .i64))]
abbrev place13_o0 : Outs := [(.ret, [(.tmp 4, .dat (.int .i64))]), (.exit 0, [])]
def place13_s0 : (List Int × Int × Int × Unit) → Option ((List Int × Int × Int × Unit) ⊕ (Int × Unit) ⊕ (Unit) ⊕ Unit) := fun (a0, a1, a2, _) =>
 match (ilt a2 (dlen a0)) with
 | true => match idx a0 a2 with
  | none => none
  | some x0 => match (ieq x0 a1) with
   | true => some (.inr (.inl (a2, ())))
   | false => some (.inl (a0, a1, (IntKind.wrap .i64 (a2 + 1)), ()))
 | false => some (.inr (.inr (.inl ())))
def place13_d : (List Int × Int × Unit) → Option ((Int × Unit)) := fun (a0, a1, _) =>
 match iterL place13_s0 many (a0, a1, 0, ()) with
 | none => none
 | some r => match r with
  | .inl (o0, _) => some (o0, ())
  | .inr r => match r with
   | .inl _ => some ((-1 : Int), ())
   | .inr _ => none
def place13 (v : (List Int × Int × Unit)) : Option ((Int × Unit)) := lock (place13_d v)
theorem place13_eq (v : (List Int × Int × Unit)) : place13 v = place13_d v := lock_eq _
def place13_s0C : (List Int × Int × Int × Unit) → Option ((List Int × Int × Int × Unit) ⊕ (Int × Unit) ⊕ (Unit) ⊕ Unit) := fun (a0, a1, a2, _) =>
 match (iltR a2 (dlen a0)) with
 | true => match idxR a0 a2 with
  | none => none
  | some x0 => match (ieqR x0 a1) with
   | true => some (.inr (.inl (a2, ())))
   | false => some (.inl (a0, a1, (IntKind.wrap .i64 (a2 + 1)), ()))
 | false => some (.inr (.inr (.inl ())))
theorem place13_s0_ceq : place13_s0 = place13_s0C := by
 funext v
 simp only [place13_s0, place13_s0C, idx_eq, ilt_eqR, ieq_eqR] <;> rfl
def place13_dC : (List Int × Int × Unit) → Option ((Int × Unit)) := fun (a0, a1, _) =>
 match iterO place13_s0C many (a0, a1, 0, ()) with
 | none => none
 | some r => match r with
  | .inl (o0, _) => some (o0, ())
  | .inr r => match r with
   | .inl _ => some ((-1 : Int), ())
   | .inr _ => none
theorem place13_d_ceq : place13_d = place13_dC := by
 funext v
 simp only [place13_d, place13_dC, iterL_eq, place13_s0_ceq] <;> rfl
def place13C (v : denL (leaves place13_i)) : Option (denL (leaves place13_o)) := place13_dC v
theorem place13_ceq : place13 = place13C := by
 funext v
 rw [place13_eq, place13_d_ceq]; rfl
-- archipelago/archipelagoref13.Right
abbrev right13_i : Items := [(.tmp 0, .dat (.slice (.int .i64)))]
abbrev right13_o : Items := [(.tmp 0, .dat .bool)]
abbrev right13_r : List RS := [.one]
abbrev right13_i0 : Items := [(.tmp 0, .dat (.slice (.int .i64))), (.tmp 3, .dat (.int .i64))]
abbrev right13_o0 : Outs := [(.ret, [(.tmp 2, .dat .bool)]), (.exit 0, [])]
def right13_s0 : (List Int × Int × Unit) → Option ((List Int × Int × Unit) ⊕ (Bool × Unit) ⊕ (Unit) ⊕ Unit) := fun (a0, a1, _) =>
 match (ilt a1 (dlen a0)) with
 | true => match idx a0 a1 with
  | none => none
  | some x0 => match (ilt x0 0) with
   | true => some (.inr (.inl (false, ())))
   | false => match idx a0 a1 with
    | none => none
    | some x1 => match (ilt 10000 x1) with
     | true => some (.inr (.inl (false, ())))
     | false => match subl a0 0 a1 with
      | none => none
      | some x2 => match idx a0 a1 with
       | none => none
       | some x3 => match place13 (x2, x3, ()) with
        | none => none
        | some (y4, _) => match (ile 0 y4) with
         | true => some (.inr (.inl (false, ())))
         | false => some (.inl (a0, (IntKind.wrap .i64 (a1 + 1)), ()))
 | false => some (.inr (.inr (.inl ())))
def right13_d : (List Int × Unit) → Option ((Bool × Unit)) := fun (a0, _) =>
 match (ilt 1000 (dlen a0)) with
 | true => some (false, ())
 | false => match iterL right13_s0 many (a0, 0, ()) with
  | none => none
  | some r => match r with
   | .inl (o0, _) => some (o0, ())
   | .inr r => match r with
    | .inl _ => some (true, ())
    | .inr _ => none
def right13 (v : (List Int × Unit)) : Option ((Bool × Unit)) := lock (right13_d v)
theorem right13_eq (v : (List Int × Unit)) : right13 v = right13_d v := lock_eq _
def right13_s0C : (List Int × Int × Unit) → Option ((List Int × Int × Unit) ⊕ (Bool × Unit) ⊕ (Unit) ⊕ Unit) := fun (a0, a1, _) =>
 match (iltR a1 (dlen a0)) with
 | true => match idxR a0 a1 with
  | none => none
  | some x0 => match (iltR x0 0) with
   | true => some (.inr (.inl (false, ())))
   | false => match idxR a0 a1 with
    | none => none
    | some x1 => match (iltR 10000 x1) with
     | true => some (.inr (.inl (false, ())))
     | false => match sublR a0 0 a1 with
      | none => none
      | some x2 => match idxR a0 a1 with
       | none => none
       | some x3 => match place13C (x2, x3, ()) with
        | none => none
        | some (y4, _) => match (ileR 0 y4) with
         | true => some (.inr (.inl (false, ())))
         | false => some (.inl (a0, (IntKind.wrap .i64 (a1 + 1)), ()))
 | false => some (.inr (.inr (.inl ())))
theorem right13_s0_ceq : right13_s0 = right13_s0C := by
 funext v
 simp only [right13_s0, right13_s0C, idx_eq, subl_eq, ilt_eqR, ile_eqR, place13_ceq] <;> rfl
def right13_dC : (List Int × Unit) → Option ((Bool × Unit)) := fun (a0, _) =>
 match (iltR 1000 (dlen a0)) with
 | true => some (false, ())
 | false => match iterO right13_s0C many (a0, 0, ()) with
  | none => none
  | some r => match r with
   | .inl (o0, _) => some (o0, ())
   | .inr r => match r with
    | .inl _ => some (true, ())
    | .inr _ => none
theorem right13_d_ceq : right13_d = right13_dC := by
 funext v
 simp only [right13_d, right13_dC, iterL_eq, ilt_eqR, right13_s0_ceq] <;> rfl
def right13C (v : denL (leaves right13_i)) : Option (denL (leaves right13_o)) := right13_dC v
theorem right13_ceq : right13 = right13C := by
 funext v
 rw [right13_eq, right13_d_ceq]; rfl
-- archipelago/archipelagoref13.From
abbrev from13_i : Items := [(.tmp 0, .dat (.slice (.int .i64))), (.tmp 1, .dat (.int .i64))]
abbrev from13_o : Items := [(.tmp 0, .own 3 (.int .i64)), (.tmp 1, .dat .bool)]
abbrev from13_r : List RS := [.one, .one]
def from13_d : (List Int × Int × Unit) → Option ((List Int × Bool × Unit)) := fun (a0, a1, _) =>
 match place13 (a0, a1, ()) with
 | none => none
 | some (y0, _) => match right13 (a0, ()) with
  | none => none
  | some (y1, _) => match (!y1) with
   | true => some (([] : List (Int)), false, ())
   | false => match (ilt y0 0) with
    | true => some (([] : List (Int)), false, ())
    | false => match subl a0 y0 (dlen a0) with
     | none => none
     | some x2 => match (fits ((dlen ([] : List (Int))) + (dlen x2))) with
      | true => match subl a0 0 y0 with
       | none => none
       | some x3 => match (fits ((dlen (dapp ([] : List (Int)) x2)) + (dlen x3))) with
        | true => some ((dapp (dapp ([] : List (Int)) x2) x3), true, ())
        | false => none
      | false => none
def from13 (v : (List Int × Int × Unit)) : Option ((List Int × Bool × Unit)) := lock (from13_d v)
theorem from13_eq (v : (List Int × Int × Unit)) : from13 v = from13_d v := lock_eq _
def from13_dC : (List Int × Int × Unit) → Option ((List Int × Bool × Unit)) := fun (a0, a1, _) =>
 match place13C (a0, a1, ()) with
 | none => none
 | some (y0, _) => match right13C (a0, ()) with
  | none => none
  | some (y1, _) => match (!y1) with
   | true => some (([] : List (Int)), false, ())
   | false => match (iltR y0 0) with
    | true => some (([] : List (Int)), false, ())
    | false => match sublR a0 y0 (dlen a0) with
     | none => none
     | some x2 => match (fitsR ((dlen ([] : List (Int))) + (dlen x2))) with
      | true => match sublR a0 0 y0 with
       | none => none
       | some x3 => match (fitsR ((dlen (dapp ([] : List (Int)) x2)) + (dlen x3))) with
        | true => some ((dapp (dapp ([] : List (Int)) x2) x3), true, ())
        | false => none
      | false => none
theorem from13_d_ceq : from13_d = from13_dC := by
 funext v
 simp only [from13_d, from13_dC, subl_eq, fits_eq, ilt_eqR, place13_ceq, right13_ceq] <;> rfl
def from13C (v : denL (leaves from13_i)) : Option (denL (leaves from13_o)) := from13_dC v
theorem from13_ceq : from13 = from13C := by
 funext v
 rw [from13_eq, from13_d_ceq]; rfl
-- archipelago/archipelagoref13.Plain
abbrev plain13_i : Items := [(.tmp 0, .dat (.slice (.int .i64)))]
abbrev plain13_o : Items := [(.tmp 0, .own 3 (.int .i64))]
abbrev plain13_r : List RS := [.one]
abbrev plain13_i0 : Items := [(.tmp 0, .dat (.slice (.int .i64))), (.tmp 3, .dat (.int .i64)), (.tmp 4, .dat (.int .i64))]
abbrev plain13_o0 : Outs := [(.exit 0, [(.tmp 0, .dat (.slice (.int .i64))), (.tmp 3, .dat (.int .i64))])]
def plain13_s0 : (List Int × Int × Int × Unit) → Option ((List Int × Int × Int × Unit) ⊕ (List Int × Int × Unit) ⊕ Unit) := fun (a0, a1, a2, _) =>
 match (ilt a2 (dlen a0)) with
 | true => match idx a0 a2 with
  | none => none
  | some x0 => some (.inl (a0, (imin a1 x0), (IntKind.wrap .i64 (a2 + 1)), ()))
 | false => some (.inr (.inl (a0, a1, ())))
def plain13_d : (List Int × Unit) → Option ((List Int × Unit)) := fun (a0, _) =>
 match right13 (a0, ()) with
 | none => none
 | some (y0, _) => match (!y0) with
  | true => some (([] : List (Int)), ())
  | false => match (ieq (dlen a0) 0) with
   | true => some (([] : List (Int)), ())
   | false => match idx a0 0 with
    | none => none
    | some x1 => match iterL plain13_s0 many (a0, x1, 0, ()) with
     | none => none
     | some r => match r with
      | .inl (o2, o3, _) => match from13 (o2, o3, ()) with
       | none => none
       | some (y4, y5, _) => some (y4, ())
      | .inr _ => none
def plain13 (v : (List Int × Unit)) : Option ((List Int × Unit)) := lock (plain13_d v)
theorem plain13_eq (v : (List Int × Unit)) : plain13 v = plain13_d v := lock_eq _
def plain13_s0C : (List Int × Int × Int × Unit) → Option ((List Int × Int × Int × Unit) ⊕ (List Int × Int × Unit) ⊕ Unit) := fun (a0, a1, a2, _) =>
 match (iltR a2 (dlen a0)) with
 | true => match idxR a0 a2 with
  | none => none
  | some x0 => some (.inl (a0, (imin a1 x0), (IntKind.wrap .i64 (a2 + 1)), ()))
 | false => some (.inr (.inl (a0, a1, ())))
theorem plain13_s0_ceq : plain13_s0 = plain13_s0C := by
 funext v
 simp only [plain13_s0, plain13_s0C, idx_eq, ilt_eqR] <;> rfl
def plain13_dC : (List Int × Unit) → Option ((List Int × Unit)) := fun (a0, _) =>
 match right13C (a0, ()) with
 | none => none
 | some (y0, _) => match (!y0) with
  | true => some (([] : List (Int)), ())
  | false => match (ieqR (dlen a0) 0) with
   | true => some (([] : List (Int)), ())
   | false => match idxR a0 0 with
    | none => none
    | some x1 => match iterO plain13_s0C many (a0, x1, 0, ()) with
     | none => none
     | some r => match r with
      | .inl (o2, o3, _) => match from13C (o2, o3, ()) with
       | none => none
       | some (y4, y5, _) => some (y4, ())
      | .inr _ => none
theorem plain13_d_ceq : plain13_d = plain13_dC := by
 funext v
 simp only [plain13_d, plain13_dC, idx_eq, iterL_eq, ieq_eqR, right13_ceq, from13_ceq, plain13_s0_ceq] <;> rfl
def plain13C (v : denL (leaves plain13_i)) : Option (denL (leaves plain13_o)) := plain13_dC v
theorem plain13_ceq : plain13 = plain13C := by
 funext v
 rw [plain13_eq, plain13_d_ceq]; rfl
-- archipelago/archipelagoref01.Ints
abbrev ints01_i : Items := [(.tmp 0, .dat (.slice (.int .i64))), (.tmp 1, .dat (.slice (.int .i64)))]
abbrev ints01_o : Items := [(.tmp 0, .dat .bool)]
abbrev ints01_r : List RS := [.one]
abbrev ints01_i0 : Items := [(.tmp 0, .dat (.slice (.int .i64))), (.tmp 1, .dat (.slice (.int .i64))), (.tmp 5, .dat (.int .i64))]
abbrev ints01_o0 : Outs := [(.ret, [(.tmp 4, .dat .bool)]), (.exit 0, [])]
def ints01_s0 : (List Int × List Int × Int × Unit) → Option ((List Int × List Int × Int × Unit) ⊕ (Bool × Unit) ⊕ (Unit) ⊕ Unit) := fun (a0, a1, a2, _) =>
 match (ilt a2 (dlen a0)) with
 | true => match idx a0 a2 with
  | none => none
  | some x0 => match idx a1 a2 with
   | none => none
   | some x1 => match (!(ieq x0 x1)) with
    | true => some (.inr (.inl (false, ())))
    | false => some (.inl (a0, a1, (IntKind.wrap .i64 (a2 + 1)), ()))
 | false => some (.inr (.inr (.inl ())))
def ints01_d : (List Int × List Int × Unit) → Option ((Bool × Unit)) := fun (a0, a1, _) =>
 match (!(ieq (dlen a0) (dlen a1))) with
 | true => some (false, ())
 | false => match iterL ints01_s0 many (a0, a1, 0, ()) with
  | none => none
  | some r => match r with
   | .inl (o0, _) => some (o0, ())
   | .inr r => match r with
    | .inl _ => some (true, ())
    | .inr _ => none
def ints01 (v : (List Int × List Int × Unit)) : Option ((Bool × Unit)) := lock (ints01_d v)
theorem ints01_eq (v : (List Int × List Int × Unit)) : ints01 v = ints01_d v := lock_eq _
def ints01_s0C : (List Int × List Int × Int × Unit) → Option ((List Int × List Int × Int × Unit) ⊕ (Bool × Unit) ⊕ (Unit) ⊕ Unit) := fun (a0, a1, a2, _) =>
 match (iltR a2 (dlen a0)) with
 | true => match idxR a0 a2 with
  | none => none
  | some x0 => match idxR a1 a2 with
   | none => none
   | some x1 => match (!(ieqR x0 x1)) with
    | true => some (.inr (.inl (false, ())))
    | false => some (.inl (a0, a1, (IntKind.wrap .i64 (a2 + 1)), ()))
 | false => some (.inr (.inr (.inl ())))
theorem ints01_s0_ceq : ints01_s0 = ints01_s0C := by
 funext v
 simp only [ints01_s0, ints01_s0C, idx_eq, ilt_eqR, ieq_eqR] <;> rfl
def ints01_dC : (List Int × List Int × Unit) → Option ((Bool × Unit)) := fun (a0, a1, _) =>
 match (!(ieqR (dlen a0) (dlen a1))) with
 | true => some (false, ())
 | false => match iterO ints01_s0C many (a0, a1, 0, ()) with
  | none => none
  | some r => match r with
   | .inl (o0, _) => some (o0, ())
   | .inr r => match r with
    | .inl _ => some (true, ())
    | .inr _ => none
theorem ints01_d_ceq : ints01_d = ints01_dC := by
 funext v
 simp only [ints01_d, ints01_dC, iterL_eq, ieq_eqR, ints01_s0_ceq] <;> rfl
def ints01C (v : denL (leaves ints01_i)) : Option (denL (leaves ints01_o)) := ints01_dC v
theorem ints01_ceq : ints01 = ints01C := by
 funext v
 rw [ints01_eq, ints01_d_ceq]; rfl
-- archipelago/archipelagoref14.Lists
abbrev lists14_i : Items := [(.tmp 0, .dat (.slice (.slice (.int .i64)))), (.tmp 1, .dat (.slice (.slice (.int .i64))))]
abbrev lists14_o : Items := [(.tmp 0, .dat .bool)]
abbrev lists14_r : List RS := [.one]
abbrev lists14_i0 : Items := [(.tmp 0, .dat (.slice (.slice (.int .i64)))), (.tmp 1, .dat (.slice (.slice (.int .i64)))), (.tmp 5, .dat (.int .i64))]
abbrev lists14_o0 : Outs := [(.ret, [(.tmp 4, .dat .bool)]), (.exit 0, [])]
def lists14_s0 : (List (List Int) × List (List Int) × Int × Unit) → Option ((List (List Int) × List (List Int) × Int × Unit) ⊕ (Bool × Unit) ⊕ (Unit) ⊕ Unit) := fun (a0, a1, a2, _) =>
 match (ilt a2 (dlen a0)) with
 | true => match idx a0 a2 with
  | none => none
  | some x0 => match idx a1 a2 with
   | none => none
   | some x1 => match ints01 (x0, x1, ()) with
    | none => none
    | some (y2, _) => match (!y2) with
     | true => some (.inr (.inl (false, ())))
     | false => some (.inl (a0, a1, (IntKind.wrap .i64 (a2 + 1)), ()))
 | false => some (.inr (.inr (.inl ())))
def lists14_d : (List (List Int) × List (List Int) × Unit) → Option ((Bool × Unit)) := fun (a0, a1, _) =>
 match (!(ieq (dlen a0) (dlen a1))) with
 | true => some (false, ())
 | false => match iterL lists14_s0 many (a0, a1, 0, ()) with
  | none => none
  | some r => match r with
   | .inl (o0, _) => some (o0, ())
   | .inr r => match r with
    | .inl _ => some (true, ())
    | .inr _ => none
def lists14 (v : (List (List Int) × List (List Int) × Unit)) : Option ((Bool × Unit)) := lock (lists14_d v)
theorem lists14_eq (v : (List (List Int) × List (List Int) × Unit)) : lists14 v = lists14_d v := lock_eq _
def lists14_s0C : (List (List Int) × List (List Int) × Int × Unit) → Option ((List (List Int) × List (List Int) × Int × Unit) ⊕ (Bool × Unit) ⊕ (Unit) ⊕ Unit) := fun (a0, a1, a2, _) =>
 match (iltR a2 (dlen a0)) with
 | true => match idxR a0 a2 with
  | none => none
  | some x0 => match idxR a1 a2 with
   | none => none
   | some x1 => match ints01C (x0, x1, ()) with
    | none => none
    | some (y2, _) => match (!y2) with
     | true => some (.inr (.inl (false, ())))
     | false => some (.inl (a0, a1, (IntKind.wrap .i64 (a2 + 1)), ()))
 | false => some (.inr (.inr (.inl ())))
theorem lists14_s0_ceq : lists14_s0 = lists14_s0C := by
 funext v
 simp only [lists14_s0, lists14_s0C, idx_eq, ilt_eqR, ints01_ceq] <;> rfl
def lists14_dC : (List (List Int) × List (List Int) × Unit) → Option ((Bool × Unit)) := fun (a0, a1, _) =>
 match (!(ieqR (dlen a0) (dlen a1))) with
 | true => some (false, ())
 | false => match iterO lists14_s0C many (a0, a1, 0, ()) with
  | none => none
  | some r => match r with
   | .inl (o0, _) => some (o0, ())
   | .inr r => match r with
    | .inl _ => some (true, ())
    | .inr _ => none
theorem lists14_d_ceq : lists14_d = lists14_dC := by
 funext v
 simp only [lists14_d, lists14_dC, iterL_eq, ieq_eqR, lists14_s0_ceq] <;> rfl
def lists14C (v : denL (leaves lists14_i)) : Option (denL (leaves lists14_o)) := lists14_dC v
theorem lists14_ceq : lists14 = lists14C := by
 funext v
 rw [lists14_eq, lists14_d_ceq]; rfl
-- archipelago/archipelagoref18.Same
abbrev same18_i : Items := [(.tmp 0, .dat (.prod (.int .i64) (.prod (.slice (.slice (.int .i64))) .unit))), (.tmp 1, .dat (.prod (.int .i64) (.prod (.slice (.slice (.int .i64))) .unit)))]
abbrev same18_o : Items := [(.tmp 0, .dat .bool)]
abbrev same18_r : List RS := [.one]
def same18_d : ((Int × (List (List Int)) × Unit) × (Int × (List (List Int)) × Unit) × Unit) → Option ((Bool × Unit)) := fun (a0, a1, _) =>
 match (ieq a0.1 a1.1) with
 | true => match lists14 (a0.2.1, a1.2.1, ()) with
  | none => none
  | some (y0, _) => some (y0, ())
 | false => some (false, ())
def same18 (v : ((Int × (List (List Int)) × Unit) × (Int × (List (List Int)) × Unit) × Unit)) : Option ((Bool × Unit)) := lock (same18_d v)
theorem same18_eq (v : ((Int × (List (List Int)) × Unit) × (Int × (List (List Int)) × Unit) × Unit)) : same18 v = same18_d v := lock_eq _
def same18_dC : ((Int × (List (List Int)) × Unit) × (Int × (List (List Int)) × Unit) × Unit) → Option ((Bool × Unit)) := fun (a0, a1, _) =>
 match (ieqR a0.1 a1.1) with
 | true => match lists14C (a0.2.1, a1.2.1, ()) with
  | none => none
  | some (y0, _) => some (y0, ())
 | false => some (false, ())
theorem same18_d_ceq : same18_d = same18_dC := by
 funext v
 simp only [same18_d, same18_dC, ieq_eqR, lists14_ceq] <;> rfl
def same18C (v : denL (leaves same18_i)) : Option (denL (leaves same18_o)) := same18_dC v
theorem same18_ceq : same18 = same18C := by
 funext v
 rw [same18_eq, same18_d_ceq]; rfl
-- archipelago/archipelagoref18.Right
abbrev right18_i : Items := [(.tmp 0, .dat (.prod (.int .i64) (.prod (.slice (.slice (.int .i64))) .unit)))]
abbrev right18_o : Items := [(.tmp 0, .dat .bool)]
abbrev right18_r : List RS := [.one]
abbrev right18_i1 : Items := [(.tmp 1, .box 2), (.cell 0 0, .dat (.int .i64)), (.cell 0 1, .dat (.slice (.slice (.int .i64)))), (.tmp 3, .own 4 .bool), (.tmp 4, .dat (.int .i64)), (.tmp 5, .dat (.int .i64)), (.tmp 6, .dat (.int .i64)), (.tmp 7, .dat (.slice (.int .i64))), (.tmp 8, .dat (.int .i64)), (.tmp 44, .dat (.slice (.int .i64))), (.tmp 45, .dat (.int .i64)), (.tmp 46, .dat .bool), (.tmp 49, .ptr' 0 0), (.tmp 50, .dat (.int .i64)), (.tmp 51, .dat (.slice (.int .i64))), (.tmp 52, .dat .bool), (.tmp 53, .dat .bool), (.tmp 56, .dat (.slice (.int .i64))), (.tmp 57, .dat (.slice (.int .i64))), (.tmp 58, .own 62 (.slice (.int .i64))), (.tmp 59, .dat (.slice (.int .i64))), (.tmp 60, .own 62 (.slice (.int .i64))), (.tmp 61, .dat .bool), (.tmp 62, .dat .bool), (.tmp 65, .dat (.slice (.int .i64))), (.tmp 67, .dat (.int .i64)), (.tmp 68, .dat (.int .i64)), (.tmp 69, .dat .bool)]
abbrev right18_o1 : Outs := [(.ret, [(.tmp 2, .dat .bool)]), (.exit 2, [(.tmp 1, .box 2), (.cell 0 0, .dat (.int .i64)), (.cell 0 1, .dat (.slice (.slice (.int .i64)))), (.tmp 3, .own 4 .bool), (.tmp 4, .dat (.int .i64)), (.tmp 5, .dat (.int .i64)), (.tmp 6, .dat (.int .i64)), (.tmp 44, .dat (.slice (.int .i64))), (.tmp 45, .dat (.int .i64)), (.tmp 46, .dat .bool), (.tmp 49, .ptr' 0 0), (.tmp 50, .dat (.int .i64)), (.tmp 51, .dat (.slice (.int .i64))), (.tmp 52, .dat .bool), (.tmp 53, .dat .bool), (.tmp 56, .dat (.slice (.int .i64))), (.tmp 57, .dat (.slice (.int .i64))), (.tmp 58, .own 62 (.slice (.int .i64))), (.tmp 59, .dat (.slice (.int .i64))), (.tmp 60, .own 62 (.slice (.int .i64))), (.tmp 61, .dat .bool), (.tmp 62, .dat .bool), (.tmp 65, .dat (.slice (.int .i64))), (.tmp 67, .dat (.int .i64)), (.tmp 68, .dat (.int .i64)), (.tmp 69, .dat .bool)])]
def right18_s1 : (Int × List (List Int) × List Bool × Int × Int × Int × List Int × Int × List Int × Int × Bool × Int × List Int × Bool × Bool × List Int × List Int × List (List Int) × List Int × List (List Int) × Bool × Bool × List Int × Int × Int × Bool × Unit) → Option ((Int × List (List Int) × List Bool × Int × Int × Int × List Int × Int × List Int × Int × Bool × Int × List Int × Bool × Bool × List Int × List Int × List (List Int) × List Int × List (List Int) × Bool × Bool × List Int × Int × Int × Bool × Unit) ⊕ (Bool × Unit) ⊕ (Int × List (List Int) × List Bool × Int × Int × Int × List Int × Int × Bool × Int × List Int × Bool × Bool × List Int × List Int × List (List Int) × List Int × List (List Int) × Bool × Bool × List Int × Int × Int × Bool × Unit) ⊕ Unit) := fun (a0, a1, a2, a3, a4, a5, a6, a7, a8, a9, a10, a11, a12, a13, a14, a15, a16, a17, a18, a19, a20, a21, a22, a23, a24, a25, _) =>
 match (ilt a7 (dlen a6)) with
 | true => match idx a6 a7 with
  | none => none
  | some x0 => match (ilt x0 a0) with
   | true => match idx a6 a7 with
    | none => none
    | some x1 => match idx a2 x1 with
     | none => none
     | some x2 => match (dget a2 (dnat x1) false) with
      | true => some (.inr (.inl (false, ())))
      | false => match idx a6 a7 with
       | none => none
       | some x3 => match idx a2 x3 with
        | none => none
        | some x4 => some (.inl (a0, a1, (dset a2 (dnat x3) true), a3, (IntKind.wrap .i64 (a4 + 1)), a5, a6, (IntKind.wrap .i64 (a7 + 1)), a8, a9, a10, a11, a12, a13, a14, a15, a16, a17, a18, a19, a20, a21, a22, a23, a24, a25, ()))
   | false => some (.inl (a0, a1, a2, a3, a4, a5, a6, (IntKind.wrap .i64 (a7 + 1)), a8, a9, a10, a11, a12, a13, a14, a15, a16, a17, a18, a19, a20, a21, a22, a23, a24, a25, ()))
 | false => some (.inr (.inr (.inl (a0, a1, a2, a3, a4, a5, a8, a9, a10, a11, a12, a13, a14, a15, a16, a17, a18, a19, a20, a21, a22, a23, a24, a25, ()))))
abbrev right18_i0 : Items := [(.tmp 1, .box 2), (.cell 0 0, .dat (.int .i64)), (.cell 0 1, .dat (.slice (.slice (.int .i64)))), (.tmp 3, .own 4 .bool), (.tmp 4, .dat (.int .i64)), (.tmp 5, .dat (.int .i64)), (.tmp 6, .dat (.int .i64))]
abbrev right18_o0 : Outs := [(.ret, [(.tmp 2, .dat .bool)]), (.exit 0, [(.tmp 1, .box 2), (.cell 0 0, .dat (.int .i64)), (.cell 0 1, .dat (.slice (.slice (.int .i64)))), (.tmp 5, .dat (.int .i64))])]
def right18_s0 : (Int × List (List Int) × List Bool × Int × Int × Int × Unit) → Option ((Int × List (List Int) × List Bool × Int × Int × Int × Unit) ⊕ (Bool × Unit) ⊕ (Int × List (List Int) × Int × Unit) ⊕ Unit) := fun (a0, a1, a2, a3, a4, a5, _) =>
 match (ilt a5 (dlen a1)) with
 | true => match idx a1 a5 with
  | none => none
  | some x0 => match right13 (x0, ()) with
   | none => none
   | some (y1, _) => match (!y1) with
    | true => some (.inr (.inl (false, ())))
    | false => match (ieq (dlen x0) 0) with
     | true => some (.inr (.inl (false, ())))
     | false => match tree18 (a0, x0, ()) with
      | none => none
      | some (y2, _) => match (!y2) with
       | true => some (.inr (.inl (false, ())))
       | false => match plain13 (x0, ()) with
        | none => none
        | some (y3, _) => match lists14 (([y3] : List (List Int)), ([x0] : List (List Int)), ()) with
         | none => none
         | some (y4, _) => match (!y4) with
          | true => some (.inr (.inl (false, ())))
          | false => match idx x0 0 with
           | none => none
           | some x5 => match (ile x5 a3) with
            | true => some (.inr (.inl (false, ())))
            | false => match idx x0 0 with
             | none => none
             | some x6 => match iterL right18_s1 many (a0, a1, a2, x6, a4, a5, x0, 0, x0, (dlen x0), (ieq (dlen x0) 0), a0, x0, y2, (!y2), x0, y3, ([y3] : List (List Int)), x0, ([x0] : List (List Int)), y4, (!y4), x0, x5, a3, (ile x5 a3), ()) with
              | none => none
              | some r => match r with
               | .inl (o7, _) => some (.inr (.inl (o7, ())))
               | .inr r => match r with
                | .inl (o8, o9, o10, o11, o12, o13, o14, o15, o16, o17, o18, o19, o20, o21, o22, o23, o24, o25, o26, o27, o28, o29, o30, o31, _) => some (.inl (o8, o9, o10, o11, o12, (IntKind.wrap .i64 (o13 + 1)), ()))
                | .inr _ => none
 | false => some (.inr (.inr (.inl (a0, a1, a4, ()))))
def right18_d : ((Int × (List (List Int)) × Unit) × Unit) → Option ((Bool × Unit)) := fun (a0, _) =>
 match (ilt a0.1 1) with
 | true => some (false, ())
 | false => match (ilt 64 a0.1) with
  | true => some (false, ())
  | false => match (ilt a0.1 (dlen a0.2.1)) with
   | true => some (false, ())
   | false => match (fitsI a0.1 && fitsI a0.1 && ile a0.1 a0.1 && true) with
    | true => match iterL right18_s0 many (a0.1, a0.2.1, (drep (dnat a0.1) false), (-1 : Int), (0 : Int), (0 : Int), ()) with
     | none => none
     | some r => match r with
      | .inl (o0, _) => some (o0, ())
      | .inr r => match r with
       | .inl (o1, o2, o3, _) => some ((ieq o3 o1), ())
       | .inr _ => none
    | false => none
def right18 (v : ((Int × (List (List Int)) × Unit) × Unit)) : Option ((Bool × Unit)) := lock (right18_d v)
theorem right18_eq (v : ((Int × (List (List Int)) × Unit) × Unit)) : right18 v = right18_d v := lock_eq _
def right18_s1C : (Int × List (List Int) × List Bool × Int × Int × Int × List Int × Int × List Int × Int × Bool × Int × List Int × Bool × Bool × List Int × List Int × List (List Int) × List Int × List (List Int) × Bool × Bool × List Int × Int × Int × Bool × Unit) → Option ((Int × List (List Int) × List Bool × Int × Int × Int × List Int × Int × List Int × Int × Bool × Int × List Int × Bool × Bool × List Int × List Int × List (List Int) × List Int × List (List Int) × Bool × Bool × List Int × Int × Int × Bool × Unit) ⊕ (Bool × Unit) ⊕ (Int × List (List Int) × List Bool × Int × Int × Int × List Int × Int × Bool × Int × List Int × Bool × Bool × List Int × List Int × List (List Int) × List Int × List (List Int) × Bool × Bool × List Int × Int × Int × Bool × Unit) ⊕ Unit) := fun (a0, a1, a2, a3, a4, a5, a6, a7, a8, a9, a10, a11, a12, a13, a14, a15, a16, a17, a18, a19, a20, a21, a22, a23, a24, a25, _) =>
 match (iltR a7 (dlen a6)) with
 | true => match idxR a6 a7 with
  | none => none
  | some x0 => match (iltR x0 a0) with
   | true => match idxR a6 a7 with
    | none => none
    | some x1 => match idxR a2 x1 with
     | none => none
     | some x2 => match (dget a2 (dnat x1) false) with
      | true => some (.inr (.inl (false, ())))
      | false => match idxR a6 a7 with
       | none => none
       | some x3 => match idxR a2 x3 with
        | none => none
        | some x4 => some (.inl (a0, a1, (dset a2 (dnat x3) true), a3, (IntKind.wrap .i64 (a4 + 1)), a5, a6, (IntKind.wrap .i64 (a7 + 1)), a8, a9, a10, a11, a12, a13, a14, a15, a16, a17, a18, a19, a20, a21, a22, a23, a24, a25, ()))
   | false => some (.inl (a0, a1, a2, a3, a4, a5, a6, (IntKind.wrap .i64 (a7 + 1)), a8, a9, a10, a11, a12, a13, a14, a15, a16, a17, a18, a19, a20, a21, a22, a23, a24, a25, ()))
 | false => some (.inr (.inr (.inl (a0, a1, a2, a3, a4, a5, a8, a9, a10, a11, a12, a13, a14, a15, a16, a17, a18, a19, a20, a21, a22, a23, a24, a25, ()))))
theorem right18_s1_ceq : right18_s1 = right18_s1C := by
 funext v
 simp only [right18_s1, right18_s1C, idx_eq, ilt_eqR] <;> rfl
def right18_s0C : (Int × List (List Int) × List Bool × Int × Int × Int × Unit) → Option ((Int × List (List Int) × List Bool × Int × Int × Int × Unit) ⊕ (Bool × Unit) ⊕ (Int × List (List Int) × Int × Unit) ⊕ Unit) := fun (a0, a1, a2, a3, a4, a5, _) =>
 match (iltR a5 (dlen a1)) with
 | true => match idxR a1 a5 with
  | none => none
  | some x0 => match right13C (x0, ()) with
   | none => none
   | some (y1, _) => match (!y1) with
    | true => some (.inr (.inl (false, ())))
    | false => match (ieqR (dlen x0) 0) with
     | true => some (.inr (.inl (false, ())))
     | false => match tree18C (a0, x0, ()) with
      | none => none
      | some (y2, _) => match (!y2) with
       | true => some (.inr (.inl (false, ())))
       | false => match plain13C (x0, ()) with
        | none => none
        | some (y3, _) => match lists14C (([y3] : List (List Int)), ([x0] : List (List Int)), ()) with
         | none => none
         | some (y4, _) => match (!y4) with
          | true => some (.inr (.inl (false, ())))
          | false => match idxR x0 0 with
           | none => none
           | some x5 => match (ileR x5 a3) with
            | true => some (.inr (.inl (false, ())))
            | false => match idxR x0 0 with
             | none => none
             | some x6 => match iterO right18_s1C many (a0, a1, a2, x6, a4, a5, x0, 0, x0, (dlen x0), (ieqR (dlen x0) 0), a0, x0, y2, (!y2), x0, y3, ([y3] : List (List Int)), x0, ([x0] : List (List Int)), y4, (!y4), x0, x5, a3, (ileR x5 a3), ()) with
              | none => none
              | some r => match r with
               | .inl (o7, _) => some (.inr (.inl (o7, ())))
               | .inr r => match r with
                | .inl (o8, o9, o10, o11, o12, o13, o14, o15, o16, o17, o18, o19, o20, o21, o22, o23, o24, o25, o26, o27, o28, o29, o30, o31, _) => some (.inl (o8, o9, o10, o11, o12, (IntKind.wrap .i64 (o13 + 1)), ()))
                | .inr _ => none
 | false => some (.inr (.inr (.inl (a0, a1, a4, ()))))
theorem right18_s0_ceq : right18_s0 = right18_s0C := by
 funext v
 simp only [right18_s0, right18_s0C, idx_eq, iterL_eq, ilt_eqR, ile_eqR, ieq_eqR, tree18_ceq, right13_ceq, plain13_ceq, lists14_ceq, right18_s1_ceq] <;> rfl
def right18_dC : ((Int × (List (List Int)) × Unit) × Unit) → Option ((Bool × Unit)) := fun (a0, _) =>
 match (iltR a0.1 1) with
 | true => some (false, ())
 | false => match (iltR 64 a0.1) with
  | true => some (false, ())
  | false => match (iltR a0.1 (dlen a0.2.1)) with
   | true => some (false, ())
   | false => match (fitsIR a0.1 && fitsIR a0.1 && ileR a0.1 a0.1 && true) with
    | true => match iterO right18_s0C many (a0.1, a0.2.1, (drep (dnat a0.1) false), (-1 : Int), (0 : Int), (0 : Int), ()) with
     | none => none
     | some r => match r with
      | .inl (o0, _) => some (o0, ())
      | .inr r => match r with
       | .inl (o1, o2, o3, _) => some ((ieqR o3 o1), ())
       | .inr _ => none
    | false => none
theorem right18_d_ceq : right18_d = right18_dC := by
 funext v
 simp only [right18_d, right18_dC, fitsI_eq, iterL_eq, ilt_eqR, ile_eqR, ieq_eqR, right18_s0_ceq] <;> rfl
def right18C (v : denL (leaves right18_i)) : Option (denL (leaves right18_o)) := right18_dC v
theorem right18_ceq : right18 = right18C := by
 funext v
 rw [right18_eq, right18_d_ceq]; rfl
-- archipelago/archipelagoref18.place
abbrev place18_i : Items := [(.tmp 0, .dat (.prod (.int .i64) (.prod (.slice (.slice (.int .i64))) .unit))), (.tmp 1, .dat (.int .i64))]
abbrev place18_o : Items := [(.tmp 0, .dat (.int .i64))]
abbrev place18_r : List RS := [.one]
abbrev place18_i0 : Items := [(.tmp 1, .dat (.int .i64)), (.tmp 2, .box 2), (.cell 0 0, .dat (.int .i64)), (.cell 0 1, .dat (.slice (.slice (.int .i64)))), (.tmp 5, .dat (.int .i64))]
abbrev place18_o0 : Outs := [(.ret, [(.tmp 4, .dat (.int .i64))]), (.exit 0, [])]
def place18_s0 : (Int × Int × List (List Int) × Int × Unit) → Option ((Int × Int × List (List Int) × Int × Unit) ⊕ (Int × Unit) ⊕ (Unit) ⊕ Unit) := fun (a0, a1, a2, a3, _) =>
 match (ilt a3 (dlen a2)) with
 | true => match idx a2 a3 with
  | none => none
  | some x0 => match place13 (x0, a0, ()) with
   | none => none
   | some (y1, _) => match (ile 0 y1) with
    | true => some (.inr (.inl (a3, ())))
    | false => some (.inl (a0, a1, a2, (IntKind.wrap .i64 (a3 + 1)), ()))
 | false => some (.inr (.inr (.inl ())))
def place18_d : ((Int × (List (List Int)) × Unit) × Int × Unit) → Option ((Int × Unit)) := fun (a0, a1, _) =>
 match iterL place18_s0 many (a1, a0.1, a0.2.1, 0, ()) with
 | none => none
 | some r => match r with
  | .inl (o0, _) => some (o0, ())
  | .inr r => match r with
   | .inl _ => some ((-1 : Int), ())
   | .inr _ => none
def place18 (v : ((Int × (List (List Int)) × Unit) × Int × Unit)) : Option ((Int × Unit)) := lock (place18_d v)
theorem place18_eq (v : ((Int × (List (List Int)) × Unit) × Int × Unit)) : place18 v = place18_d v := lock_eq _
def place18_s0C : (Int × Int × List (List Int) × Int × Unit) → Option ((Int × Int × List (List Int) × Int × Unit) ⊕ (Int × Unit) ⊕ (Unit) ⊕ Unit) := fun (a0, a1, a2, a3, _) =>
 match (iltR a3 (dlen a2)) with
 | true => match idxR a2 a3 with
  | none => none
  | some x0 => match place13C (x0, a0, ()) with
   | none => none
   | some (y1, _) => match (ileR 0 y1) with
    | true => some (.inr (.inl (a3, ())))
    | false => some (.inl (a0, a1, a2, (IntKind.wrap .i64 (a3 + 1)), ()))
 | false => some (.inr (.inr (.inl ())))
theorem place18_s0_ceq : place18_s0 = place18_s0C := by
 funext v
 simp only [place18_s0, place18_s0C, idx_eq, ilt_eqR, ile_eqR, place13_ceq] <;> rfl
def place18_dC : ((Int × (List (List Int)) × Unit) × Int × Unit) → Option ((Int × Unit)) := fun (a0, a1, _) =>
 match iterO place18_s0C many (a1, a0.1, a0.2.1, 0, ()) with
 | none => none
 | some r => match r with
  | .inl (o0, _) => some (o0, ())
  | .inr r => match r with
   | .inl _ => some ((-1 : Int), ())
   | .inr _ => none
theorem place18_d_ceq : place18_d = place18_dC := by
 funext v
 simp only [place18_d, place18_dC, iterL_eq, place18_s0_ceq] <;> rfl
def place18C (v : denL (leaves place18_i)) : Option (denL (leaves place18_o)) := place18_dC v
theorem place18_ceq : place18 = place18C := by
 funext v
 rw [place18_eq, place18_d_ceq]; rfl
-- archipelago/archipelagoref18.Of
abbrev of18_i : Items := [(.tmp 0, .dat (.prod (.int .i64) (.prod (.slice (.slice (.int .i64))) .unit))), (.tmp 1, .dat (.int .i64))]
abbrev of18_o : Items := [(.tmp 0, .dat (.int .i64))]
abbrev of18_r : List RS := [.one]
def of18_d : ((Int × (List (List Int)) × Unit) × Int × Unit) → Option ((Int × Unit)) := fun (a0, a1, _) =>
 match right18 ((a0.1, (a0.2.1, ())), ()) with
 | none => none
 | some (y0, _) => match (!y0) with
  | true => some ((-1 : Int), ())
  | false => match in18 (a0.1, a1, ()) with
   | none => none
   | some (y1, _) => match (!y1) with
    | true => some ((-1 : Int), ())
    | false => match place18 ((a0.1, (a0.2.1, ())), a1, ()) with
     | none => none
     | some (y2, _) => some (y2, ())
def of18 (v : ((Int × (List (List Int)) × Unit) × Int × Unit)) : Option ((Int × Unit)) := lock (of18_d v)
theorem of18_eq (v : ((Int × (List (List Int)) × Unit) × Int × Unit)) : of18 v = of18_d v := lock_eq _
def of18_dC : ((Int × (List (List Int)) × Unit) × Int × Unit) → Option ((Int × Unit)) := fun (a0, a1, _) =>
 match right18C ((a0.1, (a0.2.1, ())), ()) with
 | none => none
 | some (y0, _) => match (!y0) with
  | true => some ((-1 : Int), ())
  | false => match in18C (a0.1, a1, ()) with
   | none => none
   | some (y1, _) => match (!y1) with
    | true => some ((-1 : Int), ())
    | false => match place18C ((a0.1, (a0.2.1, ())), a1, ()) with
     | none => none
     | some (y2, _) => some (y2, ())
theorem of18_d_ceq : of18_d = of18_dC := by
 funext v
 simp only [of18_d, of18_dC, in18_ceq, right18_ceq, place18_ceq] <;> rfl
def of18C (v : denL (leaves of18_i)) : Option (denL (leaves of18_o)) := of18_dC v
theorem of18_ceq : of18 = of18C := by
 funext v
 rw [of18_eq, of18_d_ceq]; rfl
-- archipelago/archipelagoref18.put
abbrev put18_i : Items := [(.tmp 0, .dat (.slice (.slice (.int .i64)))), (.tmp 1, .dat (.slice (.int .i64)))]
abbrev put18_o : Items := [(.tmp 0, .own 62 (.slice (.int .i64)))]
abbrev put18_r : List RS := [.one]
abbrev put18_i0 : Items := [(.tmp 0, .dat (.slice (.slice (.int .i64)))), (.tmp 1, .own 3 (.int .i64)), (.tmp 5, .dat (.int .i64))]
abbrev put18_o0 : Outs := [(.exit 0, [(.tmp 0, .dat (.slice (.slice (.int .i64)))), (.tmp 1, .own 3 (.int .i64)), (.tmp 5, .dat (.int .i64))])]
def put18_s0 : (List (List Int) × List Int × Int × Unit) → Option ((List (List Int) × List Int × Int × Unit) ⊕ (List (List Int) × List Int × Int × Unit) ⊕ Unit) := fun (a0, a1, a2, _) =>
 match (ilt a2 (dlen a0)) with
 | true => match idx a0 a2 with
  | none => none
  | some x0 => match idx x0 0 with
   | none => none
   | some x1 => match idx a1 0 with
    | none => none
    | some x2 => match (ilt x1 (dget a1 0 0)) with
     | true => some (.inl (a0, a1, (IntKind.wrap .i64 (a2 + 1)), ()))
     | false => some (.inr (.inl (a0, a1, a2, ())))
 | false => some (.inr (.inl (a0, a1, a2, ())))
def put18_d : (List (List Int) × List Int × Unit) → Option ((List (List Int) × Unit)) := fun (a0, a1, _) =>
 match plain13 (a1, ()) with
 | none => none
 | some (y0, _) => match iterL put18_s0 many (a0, y0, 0, ()) with
  | none => none
  | some r => match r with
   | .inl (o1, o2, o3, _) => match subl o1 0 o3 with
    | none => none
    | some x4 => match (fits ((dlen ([] : List (List Int))) + (dlen x4))) with
     | true => match (fits ((dlen (dapp ([] : List (List Int)) x4)) + (dlen ([o2] : List (List Int))))) with
      | true => match subl o1 o3 (dlen o1) with
       | none => none
       | some x5 => match (fits ((dlen (dapp (dapp ([] : List (List Int)) x4) ([o2] : List (List Int)))) + (dlen x5))) with
        | true => some ((dapp (dapp (dapp ([] : List (List Int)) x4) ([o2] : List (List Int))) x5), ())
        | false => none
      | false => none
     | false => none
   | .inr _ => none
def put18 (v : (List (List Int) × List Int × Unit)) : Option ((List (List Int) × Unit)) := lock (put18_d v)
theorem put18_eq (v : (List (List Int) × List Int × Unit)) : put18 v = put18_d v := lock_eq _
def put18_s0C : (List (List Int) × List Int × Int × Unit) → Option ((List (List Int) × List Int × Int × Unit) ⊕ (List (List Int) × List Int × Int × Unit) ⊕ Unit) := fun (a0, a1, a2, _) =>
 match (iltR a2 (dlen a0)) with
 | true => match idxR a0 a2 with
  | none => none
  | some x0 => match idxR x0 0 with
   | none => none
   | some x1 => match idxR a1 0 with
    | none => none
    | some x2 => match (iltR x1 (dget a1 0 0)) with
     | true => some (.inl (a0, a1, (IntKind.wrap .i64 (a2 + 1)), ()))
     | false => some (.inr (.inl (a0, a1, a2, ())))
 | false => some (.inr (.inl (a0, a1, a2, ())))
theorem put18_s0_ceq : put18_s0 = put18_s0C := by
 funext v
 simp only [put18_s0, put18_s0C, idx_eq, ilt_eqR] <;> rfl
def put18_dC : (List (List Int) × List Int × Unit) → Option ((List (List Int) × Unit)) := fun (a0, a1, _) =>
 match plain13C (a1, ()) with
 | none => none
 | some (y0, _) => match iterO put18_s0C many (a0, y0, 0, ()) with
  | none => none
  | some r => match r with
   | .inl (o1, o2, o3, _) => match sublR o1 0 o3 with
    | none => none
    | some x4 => match (fitsR ((dlen ([] : List (List Int))) + (dlen x4))) with
     | true => match (fitsR ((dlen (dapp ([] : List (List Int)) x4)) + (dlen ([o2] : List (List Int))))) with
      | true => match sublR o1 o3 (dlen o1) with
       | none => none
       | some x5 => match (fitsR ((dlen (dapp (dapp ([] : List (List Int)) x4) ([o2] : List (List Int)))) + (dlen x5))) with
        | true => some ((dapp (dapp (dapp ([] : List (List Int)) x4) ([o2] : List (List Int))) x5), ())
        | false => none
      | false => none
     | false => none
   | .inr _ => none
theorem put18_d_ceq : put18_d = put18_dC := by
 funext v
 simp only [put18_d, put18_dC, subl_eq, fits_eq, iterL_eq, plain13_ceq, put18_s0_ceq] <;> rfl
def put18C (v : denL (leaves put18_i)) : Option (denL (leaves put18_o)) := put18_dC v
theorem put18_ceq : put18 = put18C := by
 funext v
 rw [put18_eq, put18_d_ceq]; rfl
-- archipelago/archipelagoref18.without
abbrev without18_i : Items := [(.tmp 0, .dat (.slice (.slice (.int .i64)))), (.tmp 1, .dat (.int .i64))]
abbrev without18_o : Items := [(.tmp 0, .own 62 (.slice (.int .i64)))]
abbrev without18_r : List RS := [.one]
def without18_d : (List (List Int) × Int × Unit) → Option ((List (List Int) × Unit)) := fun (a0, a1, _) =>
 match subl a0 0 a1 with
 | none => none
 | some x0 => match (fits ((dlen ([] : List (List Int))) + (dlen x0))) with
  | true => match subl a0 (IntKind.wrap .i64 (a1 + 1)) (dlen a0) with
   | none => none
   | some x1 => match (fits ((dlen (dapp ([] : List (List Int)) x0)) + (dlen x1))) with
    | true => some ((dapp (dapp ([] : List (List Int)) x0) x1), ())
    | false => none
  | false => none
def without18 (v : (List (List Int) × Int × Unit)) : Option ((List (List Int) × Unit)) := lock (without18_d v)
theorem without18_eq (v : (List (List Int) × Int × Unit)) : without18 v = without18_d v := lock_eq _
def without18_dC : (List (List Int) × Int × Unit) → Option ((List (List Int) × Unit)) := fun (a0, a1, _) =>
 match sublR a0 0 a1 with
 | none => none
 | some x0 => match (fitsR ((dlen ([] : List (List Int))) + (dlen x0))) with
  | true => match sublR a0 (IntKind.wrap .i64 (a1 + 1)) (dlen a0) with
   | none => none
   | some x1 => match (fitsR ((dlen (dapp ([] : List (List Int)) x0)) + (dlen x1))) with
    | true => some ((dapp (dapp ([] : List (List Int)) x0) x1), ())
    | false => none
  | false => none
theorem without18_d_ceq : without18_d = without18_dC := by
 funext v
 simp only [without18_d, without18_dC, subl_eq, fits_eq] <;> rfl
def without18C (v : denL (leaves without18_i)) : Option (denL (leaves without18_o)) := without18_dC v
theorem without18_ceq : without18 = without18C := by
 funext v
 rw [without18_eq, without18_d_ceq]; rfl
-- archipelago/archipelagoref18.Link
abbrev link18_i : Items := [(.tmp 0, .dat (.prod (.int .i64) (.prod (.slice (.slice (.int .i64))) .unit))), (.tmp 1, .dat (.int .i64)), (.tmp 2, .dat (.int .i64))]
abbrev link18_o : Items := [(.tmp 0, .dat (.int .i64)), (.tmp 1, .dat (.slice (.slice (.int .i64)))), (.tmp 2, .dat (.int .i64))]
abbrev link18_r : List RS := [.agg 2, .one]
def link18_d : ((Int × (List (List Int)) × Unit) × Int × Int × Unit) → Option ((Int × List (List Int) × Int × Unit)) := fun (a0, a1, a2, _) =>
 match right18 ((a0.1, (a0.2.1, ())), ()) with
 | none => none
 | some (y0, _) => match (!y0) with
  | true => some (a0.1, a0.2.1, 1, ())
  | false => match in18 (a0.1, a1, ()) with
   | none => none
   | some (y1, _) => match (!y1) with
    | true => some (a0.1, a0.2.1, 10, ())
    | false => match in18 (a0.1, a2, ()) with
     | none => none
     | some (y2, _) => match (!y2) with
      | true => some (a0.1, a0.2.1, 10, ())
      | false => match place18 ((a0.1, (a0.2.1, ())), a1, ()) with
       | none => none
       | some (y3, _) => match place18 ((a0.1, (a0.2.1, ())), a2, ()) with
        | none => none
        | some (y4, _) => match (ieq y3 y4) with
         | true => some (a0.1, a0.2.1, 5, ())
         | false => match place18 ((a0.1, (a0.2.1, ())), a1, ()) with
          | none => none
          | some (y5, _) => match place18 ((a0.1, (a0.2.1, ())), a2, ()) with
           | none => none
           | some (y6, _) => match idx a0.2.1 y5 with
            | none => none
            | some x7 => match from13 (x7, a1, ()) with
             | none => none
             | some (y8, y9, _) => match idx a0.2.1 y6 with
              | none => none
              | some x10 => match from13 (x10, a2, ()) with
               | none => none
               | some (y11, y12, _) => match arc18 (a0.1, a1, a2, ()) with
                | none => none
                | some (y13, _) => match (fits ((dlen ([a1, y13] : List (Int))) + (dlen y11))) with
                 | true => match arc18 (a0.1, a2, a1, ()) with
                  | none => none
                  | some (y14, _) => match (fits ((dlen (dapp ([a1, y13] : List (Int)) y11)) + (dlen ([y14] : List (Int))))) with
                   | true => match subl y8 1 (dlen y8) with
                    | none => none
                    | some x15 => match (fits ((dlen (dapp (dapp ([a1, y13] : List (Int)) y11) ([y14] : List (Int)))) + (dlen (dcut 1 (dnat (dlen x15)) y8)))) with
                     | true => match without18 (a0.2.1, (imax y5 y6), ()) with
                      | none => none
                      | some (y16, _) => match without18 (y16, (imin y5 y6), ()) with
                       | none => none
                       | some (y17, _) => match put18 (y17, (dapp (dapp (dapp ([a1, y13] : List (Int)) y11) ([y14] : List (Int))) (dcut 1 (dnat (dlen x15)) y8)), ()) with
                        | none => none
                        | some (y18, _) => some (a0.1, y18, 0, ())
                     | false => none
                   | false => none
                 | false => none
def link18 (v : ((Int × (List (List Int)) × Unit) × Int × Int × Unit)) : Option ((Int × List (List Int) × Int × Unit)) := lock (link18_d v)
theorem link18_eq (v : ((Int × (List (List Int)) × Unit) × Int × Int × Unit)) : link18 v = link18_d v := lock_eq _
def link18_dC : ((Int × (List (List Int)) × Unit) × Int × Int × Unit) → Option ((Int × List (List Int) × Int × Unit)) := fun (a0, a1, a2, _) =>
 match right18C ((a0.1, (a0.2.1, ())), ()) with
 | none => none
 | some (y0, _) => match (!y0) with
  | true => some (a0.1, a0.2.1, 1, ())
  | false => match in18C (a0.1, a1, ()) with
   | none => none
   | some (y1, _) => match (!y1) with
    | true => some (a0.1, a0.2.1, 10, ())
    | false => match in18C (a0.1, a2, ()) with
     | none => none
     | some (y2, _) => match (!y2) with
      | true => some (a0.1, a0.2.1, 10, ())
      | false => match place18C ((a0.1, (a0.2.1, ())), a1, ()) with
       | none => none
       | some (y3, _) => match place18C ((a0.1, (a0.2.1, ())), a2, ()) with
        | none => none
        | some (y4, _) => match (ieqR y3 y4) with
         | true => some (a0.1, a0.2.1, 5, ())
         | false => match place18C ((a0.1, (a0.2.1, ())), a1, ()) with
          | none => none
          | some (y5, _) => match place18C ((a0.1, (a0.2.1, ())), a2, ()) with
           | none => none
           | some (y6, _) => match idxR a0.2.1 y5 with
            | none => none
            | some x7 => match from13C (x7, a1, ()) with
             | none => none
             | some (y8, y9, _) => match idxR a0.2.1 y6 with
              | none => none
              | some x10 => match from13C (x10, a2, ()) with
               | none => none
               | some (y11, y12, _) => match arc18C (a0.1, a1, a2, ()) with
                | none => none
                | some (y13, _) => match (fitsR ((dlen ([a1, y13] : List (Int))) + (dlen y11))) with
                 | true => match arc18C (a0.1, a2, a1, ()) with
                  | none => none
                  | some (y14, _) => match (fitsR ((dlen (dapp ([a1, y13] : List (Int)) y11)) + (dlen ([y14] : List (Int))))) with
                   | true => match sublR y8 1 (dlen y8) with
                    | none => none
                    | some x15 => match (fitsR ((dlen (dapp (dapp ([a1, y13] : List (Int)) y11) ([y14] : List (Int)))) + (dlen (dcut 1 (dnat (dlen x15)) y8)))) with
                     | true => match without18C (a0.2.1, (imax y5 y6), ()) with
                      | none => none
                      | some (y16, _) => match without18C (y16, (imin y5 y6), ()) with
                       | none => none
                       | some (y17, _) => match put18C (y17, (dapp (dapp (dapp ([a1, y13] : List (Int)) y11) ([y14] : List (Int))) (dcut 1 (dnat (dlen x15)) y8)), ()) with
                        | none => none
                        | some (y18, _) => some (a0.1, y18, 0, ())
                     | false => none
                   | false => none
                 | false => none
theorem link18_d_ceq : link18_d = link18_dC := by
 funext v
 simp only [link18_d, link18_dC, idx_eq, subl_eq, fits_eq, ieq_eqR, in18_ceq, arc18_ceq, from13_ceq, right18_ceq, place18_ceq, put18_ceq, without18_ceq] <;> rfl
def link18C (v : denL (leaves link18_i)) : Option (denL (leaves link18_o)) := link18_dC v
theorem link18_ceq : link18 = link18C := by
 funext v
 rw [link18_eq, link18_d_ceq]; rfl
-- archipelago/archipelagoref18.Cut
abbrev cut18_i : Items := [(.tmp 0, .dat (.prod (.int .i64) (.prod (.slice (.slice (.int .i64))) .unit))), (.tmp 1, .dat (.int .i64)), (.tmp 2, .dat (.int .i64))]
abbrev cut18_o : Items := [(.tmp 0, .dat (.int .i64)), (.tmp 1, .dat (.slice (.slice (.int .i64)))), (.tmp 2, .dat (.int .i64))]
abbrev cut18_r : List RS := [.agg 2, .one]
def cut18_d : ((Int × (List (List Int)) × Unit) × Int × Int × Unit) → Option ((Int × List (List Int) × Int × Unit)) := fun (a0, a1, a2, _) =>
 match right18 ((a0.1, (a0.2.1, ())), ()) with
 | none => none
 | some (y0, _) => match (!y0) with
  | true => some (a0.1, a0.2.1, 1, ())
  | false => match in18 (a0.1, a1, ()) with
   | none => none
   | some (y1, _) => match (!y1) with
    | true => some (a0.1, a0.2.1, 10, ())
    | false => match in18 (a0.1, a2, ()) with
     | none => none
     | some (y2, _) => match (!y2) with
      | true => some (a0.1, a0.2.1, 10, ())
      | false => match place18 ((a0.1, (a0.2.1, ())), a1, ()) with
       | none => none
       | some (y3, _) => match idx a0.2.1 y3 with
        | none => none
        | some x4 => match arc18 (a0.1, a1, a2, ()) with
         | none => none
         | some (y5, _) => match from13 (x4, y5, ()) with
          | none => none
          | some (y6, y7, _) => match (!y7) with
           | true => some (a0.1, a0.2.1, 6, ())
           | false => match arc18 (a0.1, a2, a1, ()) with
            | none => none
            | some (y8, _) => match place13 (y6, y8, ()) with
             | none => none
             | some (y9, _) => match without18 (a0.2.1, y3, ()) with
              | none => none
              | some (y10, _) => match subl y6 1 y9 with
               | none => none
               | some x11 => match put18 (y10, (dcut 1 (dnat (dlen x11)) y6), ()) with
                | none => none
                | some (y12, _) => match subl y6 (IntKind.wrap .i64 (y9 + 1)) (dlen y6) with
                 | none => none
                 | some x13 => match put18 (y12, (dcut (dnat (IntKind.wrap .i64 (y9 + 1))) (dnat (dlen x13)) y6), ()) with
                  | none => none
                  | some (y14, _) => some (a0.1, y14, 0, ())
def cut18 (v : ((Int × (List (List Int)) × Unit) × Int × Int × Unit)) : Option ((Int × List (List Int) × Int × Unit)) := lock (cut18_d v)
theorem cut18_eq (v : ((Int × (List (List Int)) × Unit) × Int × Int × Unit)) : cut18 v = cut18_d v := lock_eq _
def cut18_dC : ((Int × (List (List Int)) × Unit) × Int × Int × Unit) → Option ((Int × List (List Int) × Int × Unit)) := fun (a0, a1, a2, _) =>
 match right18C ((a0.1, (a0.2.1, ())), ()) with
 | none => none
 | some (y0, _) => match (!y0) with
  | true => some (a0.1, a0.2.1, 1, ())
  | false => match in18C (a0.1, a1, ()) with
   | none => none
   | some (y1, _) => match (!y1) with
    | true => some (a0.1, a0.2.1, 10, ())
    | false => match in18C (a0.1, a2, ()) with
     | none => none
     | some (y2, _) => match (!y2) with
      | true => some (a0.1, a0.2.1, 10, ())
      | false => match place18C ((a0.1, (a0.2.1, ())), a1, ()) with
       | none => none
       | some (y3, _) => match idxR a0.2.1 y3 with
        | none => none
        | some x4 => match arc18C (a0.1, a1, a2, ()) with
         | none => none
         | some (y5, _) => match from13C (x4, y5, ()) with
          | none => none
          | some (y6, y7, _) => match (!y7) with
           | true => some (a0.1, a0.2.1, 6, ())
           | false => match arc18C (a0.1, a2, a1, ()) with
            | none => none
            | some (y8, _) => match place13C (y6, y8, ()) with
             | none => none
             | some (y9, _) => match without18C (a0.2.1, y3, ()) with
              | none => none
              | some (y10, _) => match sublR y6 1 y9 with
               | none => none
               | some x11 => match put18C (y10, (dcut 1 (dnat (dlen x11)) y6), ()) with
                | none => none
                | some (y12, _) => match sublR y6 (IntKind.wrap .i64 (y9 + 1)) (dlen y6) with
                 | none => none
                 | some x13 => match put18C (y12, (dcut (dnat (IntKind.wrap .i64 (y9 + 1))) (dnat (dlen x13)) y6), ()) with
                  | none => none
                  | some (y14, _) => some (a0.1, y14, 0, ())
theorem cut18_d_ceq : cut18_d = cut18_dC := by
 funext v
 simp only [cut18_d, cut18_dC, idx_eq, subl_eq, in18_ceq, arc18_ceq, place13_ceq, from13_ceq, right18_ceq, place18_ceq, put18_ceq, without18_ceq] <;> rfl
def cut18C (v : denL (leaves cut18_i)) : Option (denL (leaves cut18_o)) := cut18_dC v
theorem cut18_ceq : cut18 = cut18C := by
 funext v
 rw [cut18_eq, cut18_d_ceq]; rfl
-- archipelago/tour.sized
abbrev tsized_i : Items := [(.tmp 0, .dat (.int .i64))]
abbrev tsized_o : Items := [(.tmp 0, .dat .bool)]
abbrev tsized_r : List RS := [.one]
def tsized_d : (Int × Unit) → Option ((Bool × Unit)) := fun (a0, _) =>
 match (ile 1 a0) with
 | true => some ((ile a0 64), ())
 | false => some (false, ())
def tsized (v : (Int × Unit)) : Option ((Bool × Unit)) := lock (tsized_d v)
theorem tsized_eq (v : (Int × Unit)) : tsized v = tsized_d v := lock_eq _
def tsized_dC : (Int × Unit) → Option ((Bool × Unit)) := fun (a0, _) =>
 match (ileR 1 a0) with
 | true => some ((ileR a0 64), ())
 | false => some (false, ())
theorem tsized_d_ceq : tsized_d = tsized_dC := by
 funext v
 simp only [tsized_d, tsized_dC, ile_eqR] <;> rfl
def tsizedC (v : denL (leaves tsized_i)) : Option (denL (leaves tsized_o)) := tsized_dC v
theorem tsized_ceq : tsized = tsizedC := by
 funext v
 rw [tsized_eq, tsized_d_ceq]; rfl
-- archipelago/tour.in
abbrev tin_i : Items := [(.tmp 0, .dat (.int .i64)), (.tmp 1, .dat (.int .i64))]
abbrev tin_o : Items := [(.tmp 0, .dat .bool)]
abbrev tin_r : List RS := [.one]
def tin_d : (Int × Int × Unit) → Option ((Bool × Unit)) := fun (a0, a1, _) =>
 match tsized (a0, ()) with
 | none => none
 | some (y0, _) => match y0 with
  | true => match (ile 0 a1) with
   | true => some ((ilt a1 a0), ())
   | false => some (false, ())
  | false => some (false, ())
def tin (v : (Int × Int × Unit)) : Option ((Bool × Unit)) := lock (tin_d v)
theorem tin_eq (v : (Int × Int × Unit)) : tin v = tin_d v := lock_eq _
def tin_dC : (Int × Int × Unit) → Option ((Bool × Unit)) := fun (a0, a1, _) =>
 match tsizedC (a0, ()) with
 | none => none
 | some (y0, _) => match y0 with
  | true => match (ileR 0 a1) with
   | true => some ((iltR a1 a0), ())
   | false => some (false, ())
  | false => some (false, ())
theorem tin_d_ceq : tin_d = tin_dC := by
 funext v
 simp only [tin_d, tin_dC, ilt_eqR, ile_eqR, tsized_ceq] <;> rfl
def tinC (v : denL (leaves tin_i)) : Option (denL (leaves tin_o)) := tin_dC v
theorem tin_ceq : tin = tinC := by
 funext v
 rw [tin_eq, tin_d_ceq]; rfl
-- archipelago/tour.Vertex
abbrev tvertex_i : Items := [(.tmp 0, .dat (.int .i64)), (.tmp 1, .dat (.int .i64))]
abbrev tvertex_o : Items := [(.tmp 0, .dat (.int .i64))]
abbrev tvertex_r : List RS := [.one]
def tvertex_d : (Int × Int × Unit) → Option ((Int × Unit)) := fun (a0, a1, _) =>
 match tin (a0, a1, ()) with
 | none => none
 | some (y0, _) => match (!y0) with
  | true => some ((-1 : Int), ())
  | false => some (a1, ())
def tvertex (v : (Int × Int × Unit)) : Option ((Int × Unit)) := lock (tvertex_d v)
theorem tvertex_eq (v : (Int × Int × Unit)) : tvertex v = tvertex_d v := lock_eq _
def tvertex_dC : (Int × Int × Unit) → Option ((Int × Unit)) := fun (a0, a1, _) =>
 match tinC (a0, a1, ()) with
 | none => none
 | some (y0, _) => match (!y0) with
  | true => some ((-1 : Int), ())
  | false => some (a1, ())
theorem tvertex_d_ceq : tvertex_d = tvertex_dC := by
 funext v
 simp only [tvertex_d, tvertex_dC, tin_ceq] <;> rfl
def tvertexC (v : denL (leaves tvertex_i)) : Option (denL (leaves tvertex_o)) := tvertex_dC v
theorem tvertex_ceq : tvertex = tvertexC := by
 funext v
 rw [tvertex_eq, tvertex_d_ceq]; rfl
-- archipelago/tour.Arc
abbrev tarc_i : Items := [(.tmp 0, .dat (.int .i64)), (.tmp 1, .dat (.int .i64)), (.tmp 2, .dat (.int .i64))]
abbrev tarc_o : Items := [(.tmp 0, .dat (.int .i64))]
abbrev tarc_r : List RS := [.one]
def tarc_d : (Int × Int × Int × Unit) → Option ((Int × Unit)) := fun (a0, a1, a2, _) =>
 match (ieq a1 a2) with
 | true => some ((-1 : Int), ())
 | false => match tin (a0, a1, ()) with
  | none => none
  | some (y0, _) => match (!y0) with
   | true => some ((-1 : Int), ())
   | false => match tin (a0, a2, ()) with
    | none => none
    | some (y1, _) => match (!y1) with
     | true => some ((-1 : Int), ())
     | false => some ((IntKind.wrap .i64 ((IntKind.wrap .i64 (a0 * (IntKind.wrap .i64 (a1 + 1)))) + a2)), ())
def tarc (v : (Int × Int × Int × Unit)) : Option ((Int × Unit)) := lock (tarc_d v)
theorem tarc_eq (v : (Int × Int × Int × Unit)) : tarc v = tarc_d v := lock_eq _
def tarc_dC : (Int × Int × Int × Unit) → Option ((Int × Unit)) := fun (a0, a1, a2, _) =>
 match (ieqR a1 a2) with
 | true => some ((-1 : Int), ())
 | false => match tinC (a0, a1, ()) with
  | none => none
  | some (y0, _) => match (!y0) with
   | true => some ((-1 : Int), ())
   | false => match tinC (a0, a2, ()) with
    | none => none
    | some (y1, _) => match (!y1) with
     | true => some ((-1 : Int), ())
     | false => some ((IntKind.wrap .i64 ((IntKind.wrap .i64 (a0 * (IntKind.wrap .i64 (a1 + 1)))) + a2)), ())
theorem tarc_d_ceq : tarc_d = tarc_dC := by
 funext v
 simp only [tarc_d, tarc_dC, ieq_eqR, tin_ceq] <;> rfl
def tarcC (v : denL (leaves tarc_i)) : Option (denL (leaves tarc_o)) := tarc_dC v
theorem tarc_ceq : tarc = tarcC := by
 funext v
 rw [tarc_eq, tarc_d_ceq]; rfl
-- archipelago/tour.Token
abbrev ttoken_i : Items := [(.tmp 0, .dat (.int .i64)), (.tmp 1, .dat (.int .i64))]
abbrev ttoken_o : Items := [(.tmp 0, .dat (.int .i64)), (.tmp 1, .dat (.int .i64)), (.tmp 2, .dat .bool), (.tmp 3, .dat .bool)]
abbrev ttoken_r : List RS := [.one, .one, .one, .one]
def ttoken_d : (Int × Int × Unit) → Option ((Int × Int × Bool × Bool × Unit)) := fun (a0, a1, _) =>
 match tsized (a0, ()) with
 | none => none
 | some (y0, _) => match (!y0) with
  | true => some (0, 0, false, false, ())
  | false => match (ilt a1 0) with
   | true => some (0, 0, false, false, ())
   | false => match (ile (IntKind.wrap .i64 (a0 * (IntKind.wrap .i64 (a0 + 1)))) a1) with
    | true => some (0, 0, false, false, ())
    | false => match (ilt a1 a0) with
     | true => some (a1, 0, false, true, ())
     | false => match quo? .i64 a1 a0 with
      | none => none
      | some x1 => match rem? a1 a0 with
       | none => none
       | some x2 => match (ieq (IntKind.wrap .i64 (x1 - 1)) x2) with
        | true => some (0, 0, false, false, ())
        | false => some ((IntKind.wrap .i64 (x1 - 1)), x2, true, true, ())
def ttoken (v : (Int × Int × Unit)) : Option ((Int × Int × Bool × Bool × Unit)) := lock (ttoken_d v)
theorem ttoken_eq (v : (Int × Int × Unit)) : ttoken v = ttoken_d v := lock_eq _
def ttoken_dC : (Int × Int × Unit) → Option ((Int × Int × Bool × Bool × Unit)) := fun (a0, a1, _) =>
 match tsizedC (a0, ()) with
 | none => none
 | some (y0, _) => match (!y0) with
  | true => some (0, 0, false, false, ())
  | false => match (iltR a1 0) with
   | true => some (0, 0, false, false, ())
   | false => match (ileR (IntKind.wrap .i64 (a0 * (IntKind.wrap .i64 (a0 + 1)))) a1) with
    | true => some (0, 0, false, false, ())
    | false => match (iltR a1 a0) with
     | true => some (a1, 0, false, true, ())
     | false => match quoR .i64 a1 a0 with
      | none => none
      | some x1 => match remR a1 a0 with
       | none => none
       | some x2 => match (ieqR (IntKind.wrap .i64 (x1 - 1)) x2) with
        | true => some (0, 0, false, false, ())
        | false => some ((IntKind.wrap .i64 (x1 - 1)), x2, true, true, ())
theorem ttoken_d_ceq : ttoken_d = ttoken_dC := by
 funext v
 simp only [ttoken_d, ttoken_dC, quo_eq, rem_eq, ilt_eqR, ile_eqR, ieq_eqR, tsized_ceq] <;> rfl
def ttokenC (v : denL (leaves ttoken_i)) : Option (denL (leaves ttoken_o)) := ttoken_dC v
theorem ttoken_ceq : ttoken = ttokenC := by
 funext v
 rw [ttoken_eq, ttoken_d_ceq]; rfl
-- archipelago/tour.Make
abbrev tmake_i : Items := [(.tmp 0, .dat (.int .i64))]
abbrev tmake_o : Items := [(.tmp 0, .dat (.int .i64)), (.tmp 1, .own 62 (.slice (.int .i64))), (.tmp 2, .dat (.int .i64))]
abbrev tmake_r : List RS := [.agg 2, .one]
abbrev tmake_i0 : Items := [(.tmp 2, .box 2), (.cell 0 0, .dat (.int .i64)), (.cell 0 1, .nil (.slice (.int .i64))), (.tmp 4, .box 2), (.cell 1 0, .dat (.int .i64)), (.cell 1 1, .own 62 (.slice (.int .i64))), (.tmp 12, .dat (.int .i64)), (.tmp 13, .dat (.int .i64))]
abbrev tmake_o0 : Outs := [(.exit 0, [(.tmp 2, .box 2), (.cell 0 0, .dat (.int .i64)), (.cell 0 1, .nil (.slice (.int .i64))), (.tmp 4, .box 2), (.cell 1 0, .dat (.int .i64)), (.cell 1 1, .own 62 (.slice (.int .i64)))])]
def tmake_s0 : (Int × Int × List (List Int) × Int × Int × Unit) → Option ((Int × Int × List (List Int) × Int × Int × Unit) ⊕ (Int × Int × List (List Int) × Unit) ⊕ Unit) := fun (a0, a1, a2, a3, a4, _) =>
 match (ilt a4 a3) with
 | true => match (fits ((dlen a2) + (dlen ([([a4] : List (Int))] : List (List Int))))) with
  | true => some (.inl (a0, a1, (dapp a2 ([([a4] : List (Int))] : List (List Int))), a3, (IntKind.wrap .i64 (a4 + 1)), ()))
  | false => none
 | false => some (.inr (.inl (a0, a1, a2, ())))
def tmake_d : (Int × Unit) → Option ((Int × List (List Int) × Int × Unit)) := fun (a0, _) =>
 match tsized (a0, ()) with
 | none => none
 | some (y0, _) => match (!y0) with
  | true => some (0, ([] : List (List Int)), 1, ())
  | false => match iterL tmake_s0 many (0, a0, ([] : List (List Int)), a0, 0, ()) with
   | none => none
   | some r => match r with
    | .inl (o1, o2, o3, _) => some (o2, o3, 0, ())
    | .inr _ => none
def tmake (v : (Int × Unit)) : Option ((Int × List (List Int) × Int × Unit)) := lock (tmake_d v)
theorem tmake_eq (v : (Int × Unit)) : tmake v = tmake_d v := lock_eq _
def tmake_s0C : (Int × Int × List (List Int) × Int × Int × Unit) → Option ((Int × Int × List (List Int) × Int × Int × Unit) ⊕ (Int × Int × List (List Int) × Unit) ⊕ Unit) := fun (a0, a1, a2, a3, a4, _) =>
 match (iltR a4 a3) with
 | true => match (fitsR ((dlen a2) + (dlen ([([a4] : List (Int))] : List (List Int))))) with
  | true => some (.inl (a0, a1, (dapp a2 ([([a4] : List (Int))] : List (List Int))), a3, (IntKind.wrap .i64 (a4 + 1)), ()))
  | false => none
 | false => some (.inr (.inl (a0, a1, a2, ())))
theorem tmake_s0_ceq : tmake_s0 = tmake_s0C := by
 funext v
 simp only [tmake_s0, tmake_s0C, fits_eq, ilt_eqR] <;> rfl
def tmake_dC : (Int × Unit) → Option ((Int × List (List Int) × Int × Unit)) := fun (a0, _) =>
 match tsizedC (a0, ()) with
 | none => none
 | some (y0, _) => match (!y0) with
  | true => some (0, ([] : List (List Int)), 1, ())
  | false => match iterO tmake_s0C many (0, a0, ([] : List (List Int)), a0, 0, ()) with
   | none => none
   | some r => match r with
    | .inl (o1, o2, o3, _) => some (o2, o3, 0, ())
    | .inr _ => none
theorem tmake_d_ceq : tmake_d = tmake_dC := by
 funext v
 simp only [tmake_d, tmake_dC, iterL_eq, tsized_ceq, tmake_s0_ceq] <;> rfl
def tmakeC (v : denL (leaves tmake_i)) : Option (denL (leaves tmake_o)) := tmake_dC v
theorem tmake_ceq : tmake = tmakeC := by
 funext v
 rw [tmake_eq, tmake_d_ceq]; rfl
-- slices.Index[[]int,int]
abbrev indexI_i : Items := [(.tmp 0, .dat (.slice (.int .i64))), (.tmp 1, .dat (.int .i64))]
abbrev indexI_o : Items := [(.tmp 0, .dat (.int .i64))]
abbrev indexI_r : List RS := [.one]
abbrev indexI_i0 : Items := [(.tmp 0, .dat (.slice (.int .i64))), (.tmp 1, .dat (.int .i64)), (.tmp 7, .dat (.int .i64)), (.tmp 8, .dat (.int .i64))]
abbrev indexI_o0 : Outs := [(.ret, [(.tmp 4, .dat (.int .i64))]), (.exit 0, [])]
def indexI_s0 : (List Int × Int × Int × Int × Unit) → Option ((List Int × Int × Int × Int × Unit) ⊕ (Int × Unit) ⊕ (Unit) ⊕ Unit) := fun (a0, a1, a2, a3, _) =>
 match (ilt a3 a2) with
 | true => match idx a0 a3 with
  | none => none
  | some x0 => match (ieq a1 x0) with
   | true => some (.inr (.inl (a3, ())))
   | false => some (.inl (a0, a1, a2, (IntKind.wrap .i64 (a3 + 1)), ()))
 | false => some (.inr (.inr (.inl ())))
def indexI_d : (List Int × Int × Unit) → Option ((Int × Unit)) := fun (a0, a1, _) =>
 match iterL indexI_s0 many (a0, a1, (dlen a0), 0, ()) with
 | none => none
 | some r => match r with
  | .inl (o0, _) => some (o0, ())
  | .inr r => match r with
   | .inl _ => some ((-1 : Int), ())
   | .inr _ => none
def indexI (v : (List Int × Int × Unit)) : Option ((Int × Unit)) := lock (indexI_d v)
theorem indexI_eq (v : (List Int × Int × Unit)) : indexI v = indexI_d v := lock_eq _
def indexI_s0C : (List Int × Int × Int × Int × Unit) → Option ((List Int × Int × Int × Int × Unit) ⊕ (Int × Unit) ⊕ (Unit) ⊕ Unit) := fun (a0, a1, a2, a3, _) =>
 match (iltR a3 a2) with
 | true => match idxR a0 a3 with
  | none => none
  | some x0 => match (ieqR a1 x0) with
   | true => some (.inr (.inl (a3, ())))
   | false => some (.inl (a0, a1, a2, (IntKind.wrap .i64 (a3 + 1)), ()))
 | false => some (.inr (.inr (.inl ())))
theorem indexI_s0_ceq : indexI_s0 = indexI_s0C := by
 funext v
 simp only [indexI_s0, indexI_s0C, idx_eq, ilt_eqR, ieq_eqR] <;> rfl
def indexI_dC : (List Int × Int × Unit) → Option ((Int × Unit)) := fun (a0, a1, _) =>
 match iterO indexI_s0C many (a0, a1, (dlen a0), 0, ()) with
 | none => none
 | some r => match r with
  | .inl (o0, _) => some (o0, ())
  | .inr r => match r with
   | .inl _ => some ((-1 : Int), ())
   | .inr _ => none
theorem indexI_d_ceq : indexI_d = indexI_dC := by
 funext v
 simp only [indexI_d, indexI_dC, iterL_eq, indexI_s0_ceq] <;> rfl
def indexIC (v : denL (leaves indexI_i)) : Option (denL (leaves indexI_o)) := indexI_dC v
theorem indexI_ceq : indexI = indexIC := by
 funext v
 rw [indexI_eq, indexI_d_ceq]; rfl
-- slices.Contains[[]int,int]
abbrev containsI_i : Items := [(.tmp 0, .dat (.slice (.int .i64))), (.tmp 1, .dat (.int .i64))]
abbrev containsI_o : Items := [(.tmp 0, .dat .bool)]
abbrev containsI_r : List RS := [.one]
def containsI_d : (List Int × Int × Unit) → Option ((Bool × Unit)) := fun (a0, a1, _) =>
 match indexI (a0, a1, ()) with
 | none => none
 | some (y0, _) => some ((ile 0 y0), ())
def containsI (v : (List Int × Int × Unit)) : Option ((Bool × Unit)) := lock (containsI_d v)
theorem containsI_eq (v : (List Int × Int × Unit)) : containsI v = containsI_d v := lock_eq _
def containsI_dC : (List Int × Int × Unit) → Option ((Bool × Unit)) := fun (a0, a1, _) =>
 match indexIC (a0, a1, ()) with
 | none => none
 | some (y0, _) => some ((ileR 0 y0), ())
theorem containsI_d_ceq : containsI_d = containsI_dC := by
 funext v
 simp only [containsI_d, containsI_dC, ile_eqR, indexI_ceq] <;> rfl
def containsIC (v : denL (leaves containsI_i)) : Option (denL (leaves containsI_o)) := containsI_dC v
theorem containsI_ceq : containsI = containsIC := by
 funext v
 rw [containsI_eq, containsI_d_ceq]; rfl
-- slices.Min[[]int,int]
abbrev minI_i : Items := [(.tmp 0, .dat (.slice (.int .i64)))]
abbrev minI_o : Items := [(.tmp 0, .dat (.int .i64))]
abbrev minI_r : List RS := [.one]
abbrev minI_i0 : Items := [(.tmp 0, .dat (.slice (.int .i64))), (.tmp 3, .dat (.int .i64)), (.tmp 4, .dat (.int .i64))]
abbrev minI_o0 : Outs := [(.exit 0, [(.tmp 3, .dat (.int .i64))])]
def minI_s0 : (List Int × Int × Int × Unit) → Option ((List Int × Int × Int × Unit) ⊕ (Int × Unit) ⊕ Unit) := fun (a0, a1, a2, _) =>
 match (ilt a2 (dlen a0)) with
 | true => match idx a0 a2 with
  | none => none
  | some x0 => some (.inl (a0, (imin a1 x0), (IntKind.wrap .i64 (a2 + 1)), ()))
 | false => some (.inr (.inl (a1, ())))
def minI_d : (List Int × Unit) → Option ((Int × Unit)) := fun (a0, _) =>
 match (ilt (dlen a0) 1) with
 | true => none
 | false => match idx a0 0 with
  | none => none
  | some x0 => match iterL minI_s0 many (a0, x0, 1, ()) with
   | none => none
   | some r => match r with
    | .inl (o1, _) => some (o1, ())
    | .inr _ => none
def minI (v : (List Int × Unit)) : Option ((Int × Unit)) := lock (minI_d v)
theorem minI_eq (v : (List Int × Unit)) : minI v = minI_d v := lock_eq _
def minI_s0C : (List Int × Int × Int × Unit) → Option ((List Int × Int × Int × Unit) ⊕ (Int × Unit) ⊕ Unit) := fun (a0, a1, a2, _) =>
 match (iltR a2 (dlen a0)) with
 | true => match idxR a0 a2 with
  | none => none
  | some x0 => some (.inl (a0, (imin a1 x0), (IntKind.wrap .i64 (a2 + 1)), ()))
 | false => some (.inr (.inl (a1, ())))
theorem minI_s0_ceq : minI_s0 = minI_s0C := by
 funext v
 simp only [minI_s0, minI_s0C, idx_eq, ilt_eqR] <;> rfl
def minI_dC : (List Int × Unit) → Option ((Int × Unit)) := fun (a0, _) =>
 match (iltR (dlen a0) 1) with
 | true => none
 | false => match idxR a0 0 with
  | none => none
  | some x0 => match iterO minI_s0C many (a0, x0, 1, ()) with
   | none => none
   | some r => match r with
    | .inl (o1, _) => some (o1, ())
    | .inr _ => none
theorem minI_d_ceq : minI_d = minI_dC := by
 funext v
 simp only [minI_d, minI_dC, idx_eq, iterL_eq, ilt_eqR, minI_s0_ceq] <;> rfl
def minIC (v : denL (leaves minI_i)) : Option (denL (leaves minI_o)) := minI_dC v
theorem minI_ceq : minI = minIC := by
 funext v
 rw [minI_eq, minI_d_ceq]; rfl
-- slices.Grow[[]int,int]
abbrev growI_i : Items := [(.tmp 0, .nil (.int .i64)), (.tmp 1, .dat (.int .i64))]
abbrev growI_o : Items := [(.tmp 0, .own 3 (.int .i64))]
abbrev growI_r : List RS := [.one]
def growI_d : (Int × Unit) → Option ((List Int × Unit)) := fun (a0, _) =>
 match (ilt a0 0) with
 | true => none
 | false => match (ilt 0 (IntKind.wrap .i64 (a0 - (IntKind.wrap .i64 (0 - 0))))) with
  | true => match subl ([] : List Unit) 0 0 with
   | none => none
   | some _u0 => match (fitsI (IntKind.wrap .i64 (a0 - (IntKind.wrap .i64 (0 - 0))))) with
    | true => match subl (drep (dnat (IntKind.wrap .i64 (a0 - (IntKind.wrap .i64 ((0 : Int) - (0 : Int)))))) (0 : Int)) (0 : Int) (0 : Int) with
     | none => none
     | some x1 => some ((dtake (dnat (dlen x1)) (drep (dnat (IntKind.wrap .i64 (a0 - (IntKind.wrap .i64 ((0 : Int) - (0 : Int)))))) (0 : Int))), ())
    | false => none
  | false => some (([] : List (Int)), ())
def growI (v : (Int × Unit)) : Option ((List Int × Unit)) := lock (growI_d v)
theorem growI_eq (v : (Int × Unit)) : growI v = growI_d v := lock_eq _
def growI_dC : (Int × Unit) → Option ((List Int × Unit)) := fun (a0, _) =>
 match (iltR a0 0) with
 | true => none
 | false => match (iltR 0 (IntKind.wrap .i64 (a0 - (IntKind.wrap .i64 (0 - 0))))) with
  | true => match sublR ([] : List Unit) 0 0 with
   | none => none
   | some _u0 => match (fitsIR (IntKind.wrap .i64 (a0 - (IntKind.wrap .i64 (0 - 0))))) with
    | true => match sublR (drep (dnat (IntKind.wrap .i64 (a0 - (IntKind.wrap .i64 ((0 : Int) - (0 : Int)))))) (0 : Int)) (0 : Int) (0 : Int) with
     | none => none
     | some x1 => some ((dtake (dnat (dlen x1)) (drep (dnat (IntKind.wrap .i64 (a0 - (IntKind.wrap .i64 ((0 : Int) - (0 : Int)))))) (0 : Int))), ())
    | false => none
  | false => some (([] : List (Int)), ())
theorem growI_d_ceq : growI_d = growI_dC := by
 funext v
 simp only [growI_d, growI_dC, subl_eq, fitsI_eq, ilt_eqR] <;> rfl
def growIC (v : denL (leaves growI_i)) : Option (denL (leaves growI_o)) := growI_dC v
theorem growI_ceq : growI = growIC := by
 funext v
 rw [growI_eq, growI_d_ceq]; rfl
-- slices.Concat[[]int,int]
abbrev concatI_i : Items := [(.tmp 0, .dat (.slice (.slice (.int .i64))))]
abbrev concatI_o : Items := [(.tmp 0, .own 3 (.int .i64))]
abbrev concatI_r : List RS := [.one]
abbrev concatI_i1 : Items := [(.tmp 6, .own 3 (.int .i64)), (.tmp 25, .dat (.slice (.slice (.int .i64)))), (.tmp 26, .dat (.int .i64)), (.tmp 27, .dat (.int .i64))]
abbrev concatI_o1 : Outs := [(.exit 2, [(.tmp 6, .own 3 (.int .i64))])]
def concatI_s1 : (List Int × List (List Int) × Int × Int × Unit) → Option ((List Int × List (List Int) × Int × Int × Unit) ⊕ (List Int × Unit) ⊕ Unit) := fun (a0, a1, a2, a3, _) =>
 match (ilt a3 a2) with
 | true => match idx a1 a3 with
  | none => none
  | some x0 => match (fits ((dlen a0) + (dlen x0))) with
   | true => some (.inl ((dapp a0 x0), a1, a2, (IntKind.wrap .i64 (a3 + 1)), ()))
   | false => none
 | false => some (.inr (.inl (a0, ())))
abbrev concatI_i0 : Items := [(.tmp 0, .dat (.slice (.slice (.int .i64)))), (.tmp 3, .dat (.int .i64)), (.tmp 9, .dat (.slice (.slice (.int .i64)))), (.tmp 10, .dat (.int .i64)), (.tmp 11, .dat (.int .i64))]
abbrev concatI_o0 : Outs := [(.exit 0, [(.tmp 0, .dat (.slice (.slice (.int .i64)))), (.tmp 3, .dat (.int .i64))])]
def concatI_s0 : (List (List Int) × Int × List (List Int) × Int × Int × Unit) → Option ((List (List Int) × Int × List (List Int) × Int × Int × Unit) ⊕ (List (List Int) × Int × Unit) ⊕ Unit) := fun (a0, a1, a2, a3, a4, _) =>
 match (ilt a4 a3) with
 | true => match idx a2 a4 with
  | none => none
  | some x0 => match (ilt (IntKind.wrap .i64 (a1 + (dlen x0))) 0) with
   | true => none
   | false => some (.inl (a0, (IntKind.wrap .i64 (a1 + (dlen x0))), a2, a3, (IntKind.wrap .i64 (a4 + 1)), ()))
 | false => some (.inr (.inl (a0, a1, ())))
def concatI_d : (List (List Int) × Unit) → Option ((List Int × Unit)) := fun (a0, _) =>
 match iterL concatI_s0 many (a0, 0, a0, (dlen a0), 0, ()) with
 | none => none
 | some r => match r with
  | .inl (o0, o1, _) => match growI (o1, ()) with
   | none => none
   | some (y2, _) => match iterL concatI_s1 many (y2, o0, (dlen o0), 0, ()) with
    | none => none
    | some r => match r with
     | .inl (o3, _) => some (o3, ())
     | .inr _ => none
  | .inr _ => none
def concatI (v : (List (List Int) × Unit)) : Option ((List Int × Unit)) := lock (concatI_d v)
theorem concatI_eq (v : (List (List Int) × Unit)) : concatI v = concatI_d v := lock_eq _
def concatI_s1C : (List Int × List (List Int) × Int × Int × Unit) → Option ((List Int × List (List Int) × Int × Int × Unit) ⊕ (List Int × Unit) ⊕ Unit) := fun (a0, a1, a2, a3, _) =>
 match (iltR a3 a2) with
 | true => match idxR a1 a3 with
  | none => none
  | some x0 => match (fitsR ((dlen a0) + (dlen x0))) with
   | true => some (.inl ((dapp a0 x0), a1, a2, (IntKind.wrap .i64 (a3 + 1)), ()))
   | false => none
 | false => some (.inr (.inl (a0, ())))
theorem concatI_s1_ceq : concatI_s1 = concatI_s1C := by
 funext v
 simp only [concatI_s1, concatI_s1C, idx_eq, fits_eq, ilt_eqR] <;> rfl
def concatI_s0C : (List (List Int) × Int × List (List Int) × Int × Int × Unit) → Option ((List (List Int) × Int × List (List Int) × Int × Int × Unit) ⊕ (List (List Int) × Int × Unit) ⊕ Unit) := fun (a0, a1, a2, a3, a4, _) =>
 match (iltR a4 a3) with
 | true => match idxR a2 a4 with
  | none => none
  | some x0 => match (iltR (IntKind.wrap .i64 (a1 + (dlen x0))) 0) with
   | true => none
   | false => some (.inl (a0, (IntKind.wrap .i64 (a1 + (dlen x0))), a2, a3, (IntKind.wrap .i64 (a4 + 1)), ()))
 | false => some (.inr (.inl (a0, a1, ())))
theorem concatI_s0_ceq : concatI_s0 = concatI_s0C := by
 funext v
 simp only [concatI_s0, concatI_s0C, idx_eq, ilt_eqR] <;> rfl
def concatI_dC : (List (List Int) × Unit) → Option ((List Int × Unit)) := fun (a0, _) =>
 match iterO concatI_s0C many (a0, 0, a0, (dlen a0), 0, ()) with
 | none => none
 | some r => match r with
  | .inl (o0, o1, _) => match growIC (o1, ()) with
   | none => none
   | some (y2, _) => match iterO concatI_s1C many (y2, o0, (dlen o0), 0, ()) with
    | none => none
    | some r => match r with
     | .inl (o3, _) => some (o3, ())
     | .inr _ => none
  | .inr _ => none
theorem concatI_d_ceq : concatI_d = concatI_dC := by
 funext v
 simp only [concatI_d, concatI_dC, iterL_eq, growI_ceq, concatI_s1_ceq, concatI_s0_ceq] <;> rfl
def concatIC (v : denL (leaves concatI_i)) : Option (denL (leaves concatI_o)) := concatI_dC v
theorem concatI_ceq : concatI = concatIC := by
 funext v
 rw [concatI_eq, concatI_d_ceq]; rfl
-- slices.IndexFunc[[]int,int]
abbrev idxFuncI_odd_i : Items := [(.tmp 0, .dat (.slice (.int .i64))), (.tmp 1, .clo 101 [])]
abbrev idxFuncI_odd_o : Items := [(.tmp 0, .dat (.int .i64))]
abbrev idxFuncI_odd_r : List RS := [.one]
abbrev idxFuncI_odd_i0 : Items := [(.tmp 0, .dat (.slice (.int .i64))), (.tmp 1, .clo 101 []), (.tmp 7, .dat (.int .i64)), (.tmp 8, .dat (.int .i64))]
abbrev idxFuncI_odd_o0 : Outs := [(.ret, [(.tmp 4, .dat (.int .i64))]), (.exit 0, [])]
def idxFuncI_odd_s0 : (List Int × Int × Int × Unit) → Option ((List Int × Int × Int × Unit) ⊕ (Int × Unit) ⊕ (Unit) ⊕ Unit) := fun (a0, a1, a2, _) =>
 match (ilt a2 a1) with
 | true => match idx a0 a2 with
  | none => none
  | some x0 => match (ilt x0 0) with
   | true => some (.inr (.inl (a2, ())))
   | false => match (ilt 10000 x0) with
    | true => some (.inr (.inl (a2, ())))
    | false => some (.inl (a0, a1, (IntKind.wrap .i64 (a2 + 1)), ()))
 | false => some (.inr (.inr (.inl ())))
def idxFuncI_odd_d : (List Int × Unit) → Option ((Int × Unit)) := fun (a0, _) =>
 match iterL idxFuncI_odd_s0 many (a0, (dlen a0), 0, ()) with
 | none => none
 | some r => match r with
  | .inl (o0, _) => some (o0, ())
  | .inr r => match r with
   | .inl _ => some ((-1 : Int), ())
   | .inr _ => none
def idxFuncI_odd (v : (List Int × Unit)) : Option ((Int × Unit)) := lock (idxFuncI_odd_d v)
theorem idxFuncI_odd_eq (v : (List Int × Unit)) : idxFuncI_odd v = idxFuncI_odd_d v := lock_eq _
def idxFuncI_odd_s0C : (List Int × Int × Int × Unit) → Option ((List Int × Int × Int × Unit) ⊕ (Int × Unit) ⊕ (Unit) ⊕ Unit) := fun (a0, a1, a2, _) =>
 match (iltR a2 a1) with
 | true => match idxR a0 a2 with
  | none => none
  | some x0 => match (iltR x0 0) with
   | true => some (.inr (.inl (a2, ())))
   | false => match (iltR 10000 x0) with
    | true => some (.inr (.inl (a2, ())))
    | false => some (.inl (a0, a1, (IntKind.wrap .i64 (a2 + 1)), ()))
 | false => some (.inr (.inr (.inl ())))
theorem idxFuncI_odd_s0_ceq : idxFuncI_odd_s0 = idxFuncI_odd_s0C := by
 funext v
 simp only [idxFuncI_odd_s0, idxFuncI_odd_s0C, idx_eq, ilt_eqR] <;> rfl
def idxFuncI_odd_dC : (List Int × Unit) → Option ((Int × Unit)) := fun (a0, _) =>
 match iterO idxFuncI_odd_s0C many (a0, (dlen a0), 0, ()) with
 | none => none
 | some r => match r with
  | .inl (o0, _) => some (o0, ())
  | .inr r => match r with
   | .inl _ => some ((-1 : Int), ())
   | .inr _ => none
theorem idxFuncI_odd_d_ceq : idxFuncI_odd_d = idxFuncI_odd_dC := by
 funext v
 simp only [idxFuncI_odd_d, idxFuncI_odd_dC, iterL_eq, idxFuncI_odd_s0_ceq] <;> rfl
def idxFuncI_oddC (v : denL (leaves idxFuncI_odd_i)) : Option (denL (leaves idxFuncI_odd_o)) := idxFuncI_odd_dC v
theorem idxFuncI_odd_ceq : idxFuncI_odd = idxFuncI_oddC := by
 funext v
 rw [idxFuncI_odd_eq, idxFuncI_odd_d_ceq]; rfl
-- slices.ContainsFunc[[]int,int]
abbrev contFuncI_odd_i : Items := [(.tmp 0, .dat (.slice (.int .i64))), (.tmp 1, .clo 101 [])]
abbrev contFuncI_odd_o : Items := [(.tmp 0, .dat .bool)]
abbrev contFuncI_odd_r : List RS := [.one]
def contFuncI_odd_d : (List Int × Unit) → Option ((Bool × Unit)) := fun (a0, _) =>
 match idxFuncI_odd (a0, ()) with
 | none => none
 | some (y0, _) => some ((ile 0 y0), ())
def contFuncI_odd (v : (List Int × Unit)) : Option ((Bool × Unit)) := lock (contFuncI_odd_d v)
theorem contFuncI_odd_eq (v : (List Int × Unit)) : contFuncI_odd v = contFuncI_odd_d v := lock_eq _
def contFuncI_odd_dC : (List Int × Unit) → Option ((Bool × Unit)) := fun (a0, _) =>
 match idxFuncI_oddC (a0, ()) with
 | none => none
 | some (y0, _) => some ((ileR 0 y0), ())
theorem contFuncI_odd_d_ceq : contFuncI_odd_d = contFuncI_odd_dC := by
 funext v
 simp only [contFuncI_odd_d, contFuncI_odd_dC, ile_eqR, idxFuncI_odd_ceq] <;> rfl
def contFuncI_oddC (v : denL (leaves contFuncI_odd_i)) : Option (denL (leaves contFuncI_odd_o)) := contFuncI_odd_dC v
theorem contFuncI_odd_ceq : contFuncI_odd = contFuncI_oddC := by
 funext v
 rw [contFuncI_odd_eq, contFuncI_odd_d_ceq]; rfl
end
end Go.Pev
end
section
/- The models of functions: what they compute, as plain functions of leaves; each twice: locked, and to compute with (C). Printed by a program. -/
namespace Go.Pev
set_option maxRecDepth 100000
noncomputable section
attribute [local irreducible] fitsR fitsIR idxR sublR iltR ileR ieqR quoR remR shlR shrR cloneR iterO many IntKind.wrap dlen dset dget dapp dtake dcut drep dnat dclear imin imax lookupM storeM
-- archipelago/ring.once[int]
abbrev once_i : Items := [(.tmp 0, .dat (.slice (.int .i64)))]
abbrev once_o : Items := [(.tmp 0, .dat .bool)]
abbrev once_r : List RS := [.one]
abbrev once_i0 : Items := [(.tmp 0, .dat (.slice (.int .i64))), (.tmp 3, .map (.int .i64) (.int .i64)), (.tmp 7, .dat (.slice (.int .i64))), (.tmp 8, .dat (.int .i64)), (.tmp 9, .dat (.int .i64))]
abbrev once_o0 : Outs := [(.exit 0, [(.tmp 0, .dat (.slice (.int .i64))), (.tmp 3, .map (.int .i64) (.int .i64))])]
def once_s0 : (List Int × List (Int × Int) × List Int × Int × Int × Unit) → Option ((List Int × List (Int × Int) × List Int × Int × Int × Unit) ⊕ (List Int × List (Int × Int) × Unit) ⊕ Unit) := fun (a0, a1, a2, a3, a4, _) =>
 match (ilt a4 a3) with
 | true => match idx a2 a4 with
  | none => none
  | some x0 => some (.inl (a0, (storeM a1 x0 (IntKind.wrap .i64 (((lookupM a1 x0).getD 0) + 1))), a2, a3, (IntKind.wrap .i64 (a4 + 1)), ()))
 | false => some (.inr (.inl (a0, a1, ())))
def once_d : (List Int × Unit) → Option ((Bool × Unit)) := fun (a0, _) =>
 match iterL once_s0 many (a0, ([] : List (Int × Int)), a0, (dlen a0), 0, ()) with
 | none => none
 | some r => match r with
  | .inl (o0, o1, _) => some ((ieq (dlen o1) (dlen o0)), ())
  | .inr _ => none
def once (v : (List Int × Unit)) : Option ((Bool × Unit)) := lock (once_d v)
theorem once_eq (v : (List Int × Unit)) : once v = once_d v := lock_eq _
def once_s0C : (List Int × List (Int × Int) × List Int × Int × Int × Unit) → Option ((List Int × List (Int × Int) × List Int × Int × Int × Unit) ⊕ (List Int × List (Int × Int) × Unit) ⊕ Unit) := fun (a0, a1, a2, a3, a4, _) =>
 match (iltR a4 a3) with
 | true => match idxR a2 a4 with
  | none => none
  | some x0 => some (.inl (a0, (storeM a1 x0 (IntKind.wrap .i64 (((lookupM a1 x0).getD 0) + 1))), a2, a3, (IntKind.wrap .i64 (a4 + 1)), ()))
 | false => some (.inr (.inl (a0, a1, ())))
theorem once_s0_ceq : once_s0 = once_s0C := by
 funext v
 simp only [once_s0, once_s0C, idx_eq, ilt_eqR] <;> rfl
def once_dC : (List Int × Unit) → Option ((Bool × Unit)) := fun (a0, _) =>
 match iterO once_s0C many (a0, ([] : List (Int × Int)), a0, (dlen a0), 0, ()) with
 | none => none
 | some r => match r with
  | .inl (o0, o1, _) => some ((ieqR (dlen o1) (dlen o0)), ())
  | .inr _ => none
theorem once_d_ceq : once_d = once_dC := by
 funext v
 simp only [once_d, once_dC, iterL_eq, ieq_eqR, once_s0_ceq] <;> rfl
def onceC (v : denL (leaves once_i)) : Option (denL (leaves once_o)) := once_dC v
theorem once_ceq : once = onceC := by
 funext v
 rw [once_eq, once_d_ceq]; rfl
-- archipelago/ring.Right
abbrev rright_i : Items := [(.tmp 0, .dat (.slice (.int .i64)))]
abbrev rright_o : Items := [(.tmp 0, .dat .bool)]
abbrev rright_r : List RS := [.one]
def rright_d : (List Int × Unit) → Option ((Bool × Unit)) := fun (a0, _) =>
 match (ilt 1000 (dlen a0)) with
 | true => some (false, ())
 | false => match contFuncI_odd (a0, ()) with
  | none => none
  | some (y0, _) => match (!y0) with
   | true => match once (a0, ()) with
    | none => none
    | some (y1, _) => some (y1, ())
   | false => some (false, ())
def rright (v : (List Int × Unit)) : Option ((Bool × Unit)) := lock (rright_d v)
theorem rright_eq (v : (List Int × Unit)) : rright v = rright_d v := lock_eq _
def rright_dC : (List Int × Unit) → Option ((Bool × Unit)) := fun (a0, _) =>
 match (iltR 1000 (dlen a0)) with
 | true => some (false, ())
 | false => match contFuncI_oddC (a0, ()) with
  | none => none
  | some (y0, _) => match (!y0) with
   | true => match onceC (a0, ()) with
    | none => none
    | some (y1, _) => some (y1, ())
   | false => some (false, ())
theorem rright_d_ceq : rright_d = rright_dC := by
 funext v
 simp only [rright_d, rright_dC, ilt_eqR, contFuncI_odd_ceq, once_ceq] <;> rfl
def rrightC (v : denL (leaves rright_i)) : Option (denL (leaves rright_o)) := rright_dC v
theorem rright_ceq : rright = rrightC := by
 funext v
 rw [rright_eq, rright_d_ceq]; rfl
-- archipelago/ring.turned
abbrev turned_i : Items := [(.tmp 0, .dat (.slice (.int .i64))), (.tmp 1, .dat (.int .i64))]
abbrev turned_o : Items := [(.tmp 0, .own 3 (.int .i64))]
abbrev turned_r : List RS := [.one]
def turned_d : (List Int × Int × Unit) → Option ((List Int × Unit)) := fun (a0, a1, _) =>
 match subl a0 a1 (dlen a0) with
 | none => none
 | some x0 => match subl a0 0 a1 with
  | none => none
  | some x1 => match concatI (([x0, x1] : List (List Int)), ()) with
   | none => none
   | some (y2, _) => some (y2, ())
def turned (v : (List Int × Int × Unit)) : Option ((List Int × Unit)) := lock (turned_d v)
theorem turned_eq (v : (List Int × Int × Unit)) : turned v = turned_d v := lock_eq _
def turned_dC : (List Int × Int × Unit) → Option ((List Int × Unit)) := fun (a0, a1, _) =>
 match sublR a0 a1 (dlen a0) with
 | none => none
 | some x0 => match sublR a0 0 a1 with
  | none => none
  | some x1 => match concatIC (([x0, x1] : List (List Int)), ()) with
   | none => none
   | some (y2, _) => some (y2, ())
theorem turned_d_ceq : turned_d = turned_dC := by
 funext v
 simp only [turned_d, turned_dC, subl_eq, concatI_ceq] <;> rfl
def turnedC (v : denL (leaves turned_i)) : Option (denL (leaves turned_o)) := turned_dC v
theorem turned_ceq : turned = turnedC := by
 funext v
 rw [turned_eq, turned_d_ceq]; rfl
-- archipelago/ring.places
abbrev places_i : Items := [(.tmp 0, .dat (.slice (.int .i64))), (.tmp 1, .dat (.slice (.int .i64)))]
abbrev places_o : Items := [(.tmp 0, .own 3 (.int .i64)), (.tmp 1, .dat .bool)]
abbrev places_r : List RS := [.one, .one]
abbrev places_i0 : Items := [(.tmp 0, .dat (.slice (.int .i64))), (.tmp 6, .own 3 (.int .i64)), (.tmp 12, .dat (.slice (.int .i64))), (.tmp 13, .dat (.int .i64)), (.tmp 14, .dat (.int .i64))]
abbrev places_o0 : Outs := [(.exit 0, [(.tmp 6, .own 3 (.int .i64))])]
def places_s0 : (List Int × List Int × List Int × Int × Int × Unit) → Option ((List Int × List Int × List Int × Int × Int × Unit) ⊕ (List Int × Unit) ⊕ Unit) := fun (a0, a1, a2, a3, a4, _) =>
 match (ilt a4 a3) with
 | true => match idx a2 a4 with
  | none => none
  | some x0 => match indexI (a0, x0, ()) with
   | none => none
   | some (y1, _) => match (fits ((dlen a1) + (dlen ([y1] : List (Int))))) with
    | true => some (.inl (a0, (dapp a1 ([y1] : List (Int))), a2, a3, (IntKind.wrap .i64 (a4 + 1)), ()))
    | false => none
 | false => some (.inr (.inl (a1, ())))
def places_d : (List Int × List Int × Unit) → Option ((List Int × Bool × Unit)) := fun (a0, a1, _) =>
 match rright (a0, ()) with
 | none => none
 | some (y0, _) => match (!y0) with
  | true => some (([] : List (Int)), false, ())
  | false => match iterL places_s0 many (a0, ([] : List (Int)), a1, (dlen a1), 0, ()) with
   | none => none
   | some r => match r with
    | .inl (o1, _) => match containsI (o1, (-1 : Int), ()) with
     | none => none
     | some (y2, _) => some (o1, (!y2), ())
    | .inr _ => none
def places (v : (List Int × List Int × Unit)) : Option ((List Int × Bool × Unit)) := lock (places_d v)
theorem places_eq (v : (List Int × List Int × Unit)) : places v = places_d v := lock_eq _
def places_s0C : (List Int × List Int × List Int × Int × Int × Unit) → Option ((List Int × List Int × List Int × Int × Int × Unit) ⊕ (List Int × Unit) ⊕ Unit) := fun (a0, a1, a2, a3, a4, _) =>
 match (iltR a4 a3) with
 | true => match idxR a2 a4 with
  | none => none
  | some x0 => match indexIC (a0, x0, ()) with
   | none => none
   | some (y1, _) => match (fitsR ((dlen a1) + (dlen ([y1] : List (Int))))) with
    | true => some (.inl (a0, (dapp a1 ([y1] : List (Int))), a2, a3, (IntKind.wrap .i64 (a4 + 1)), ()))
    | false => none
 | false => some (.inr (.inl (a1, ())))
theorem places_s0_ceq : places_s0 = places_s0C := by
 funext v
 simp only [places_s0, places_s0C, idx_eq, fits_eq, ilt_eqR, indexI_ceq] <;> rfl
def places_dC : (List Int × List Int × Unit) → Option ((List Int × Bool × Unit)) := fun (a0, a1, _) =>
 match rrightC (a0, ()) with
 | none => none
 | some (y0, _) => match (!y0) with
  | true => some (([] : List (Int)), false, ())
  | false => match iterO places_s0C many (a0, ([] : List (Int)), a1, (dlen a1), 0, ()) with
   | none => none
   | some r => match r with
    | .inl (o1, _) => match containsIC (o1, (-1 : Int), ()) with
     | none => none
     | some (y2, _) => some (o1, (!y2), ())
    | .inr _ => none
theorem places_d_ceq : places_d = places_dC := by
 funext v
 simp only [places_d, places_dC, iterL_eq, containsI_ceq, rright_ceq, places_s0_ceq] <;> rfl
def placesC (v : denL (leaves places_i)) : Option (denL (leaves places_o)) := places_dC v
theorem places_ceq : places = placesC := by
 funext v
 rw [places_eq, places_d_ceq]; rfl
-- archipelago/ring.From
abbrev rfrom_i : Items := [(.tmp 0, .dat (.slice (.int .i64))), (.tmp 1, .dat (.int .i64))]
abbrev rfrom_o : Items := [(.tmp 0, .own 3 (.int .i64)), (.tmp 1, .dat .bool)]
abbrev rfrom_r : List RS := [.one, .one]
def rfrom_d : (List Int × Int × Unit) → Option ((List Int × Bool × Unit)) := fun (a0, a1, _) =>
 match places (a0, ([a1] : List (Int)), ()) with
 | none => none
 | some (y0, y1, _) => match (!y1) with
  | true => some (([] : List (Int)), false, ())
  | false => match idx y0 0 with
   | none => none
   | some x2 => match turned (a0, (dget y0 0 0), ()) with
    | none => none
    | some (y3, _) => some (y3, true, ())
def rfrom (v : (List Int × Int × Unit)) : Option ((List Int × Bool × Unit)) := lock (rfrom_d v)
theorem rfrom_eq (v : (List Int × Int × Unit)) : rfrom v = rfrom_d v := lock_eq _
def rfrom_dC : (List Int × Int × Unit) → Option ((List Int × Bool × Unit)) := fun (a0, a1, _) =>
 match placesC (a0, ([a1] : List (Int)), ()) with
 | none => none
 | some (y0, y1, _) => match (!y1) with
  | true => some (([] : List (Int)), false, ())
  | false => match idxR y0 0 with
   | none => none
   | some x2 => match turnedC (a0, (dget y0 0 0), ()) with
    | none => none
    | some (y3, _) => some (y3, true, ())
theorem rfrom_d_ceq : rfrom_d = rfrom_dC := by
 funext v
 simp only [rfrom_d, rfrom_dC, idx_eq, turned_ceq, places_ceq] <;> rfl
def rfromC (v : denL (leaves rfrom_i)) : Option (denL (leaves rfrom_o)) := rfrom_dC v
theorem rfrom_ceq : rfrom = rfromC := by
 funext v
 rw [rfrom_eq, rfrom_d_ceq]; rfl
-- archipelago/ring.Plain
abbrev rplain_i : Items := [(.tmp 0, .dat (.slice (.int .i64)))]
abbrev rplain_o : Items := [(.tmp 0, .own 3 (.int .i64))]
abbrev rplain_r : List RS := [.one]
def rplain_d : (List Int × Unit) → Option ((List Int × Unit)) := fun (a0, _) =>
 match rright (a0, ()) with
 | none => none
 | some (y0, _) => match (!y0) with
  | true => some (([] : List (Int)), ())
  | false => match (ieq (dlen a0) 0) with
   | true => some (([] : List (Int)), ())
   | false => match minI (a0, ()) with
    | none => none
    | some (y1, _) => match indexI (a0, y1, ()) with
     | none => none
     | some (y2, _) => match turned (a0, y2, ()) with
      | none => none
      | some (y3, _) => some (y3, ())
def rplain (v : (List Int × Unit)) : Option ((List Int × Unit)) := lock (rplain_d v)
theorem rplain_eq (v : (List Int × Unit)) : rplain v = rplain_d v := lock_eq _
def rplain_dC : (List Int × Unit) → Option ((List Int × Unit)) := fun (a0, _) =>
 match rrightC (a0, ()) with
 | none => none
 | some (y0, _) => match (!y0) with
  | true => some (([] : List (Int)), ())
  | false => match (ieqR (dlen a0) 0) with
   | true => some (([] : List (Int)), ())
   | false => match minIC (a0, ()) with
    | none => none
    | some (y1, _) => match indexIC (a0, y1, ()) with
     | none => none
     | some (y2, _) => match turnedC (a0, y2, ()) with
      | none => none
      | some (y3, _) => some (y3, ())
theorem rplain_d_ceq : rplain_d = rplain_dC := by
 funext v
 simp only [rplain_d, rplain_dC, ieq_eqR, indexI_ceq, minI_ceq, rright_ceq, turned_ceq] <;> rfl
def rplainC (v : denL (leaves rplain_i)) : Option (denL (leaves rplain_o)) := rplain_dC v
theorem rplain_ceq : rplain = rplainC := by
 funext v
 rw [rplain_eq, rplain_d_ceq]; rfl
-- slices.IndexFunc[[][]int,[]int]
abbrev idxFuncL_place_i : Items := [(.tmp 0, .dat (.slice (.slice (.int .i64)))), (.cap 1 0, .box 1), (.cell 0 0, .dat (.int .i64)), (.tmp 1, .clo 92 [(0, 0)])]
abbrev idxFuncL_place_o : Items := [(.obj 0, .box 1), (.cell 0 0, .dat (.int .i64)), (.tmp 0, .dat (.int .i64))]
abbrev idxFuncL_place_r : List RS := [.one]
abbrev idxFuncL_place_i0 : Items := [(.obj 0, .box 1), (.cell 0 0, .dat (.int .i64)), (.tmp 0, .dat (.slice (.slice (.int .i64)))), (.tmp 1, .clo 92 [(0, 0)]), (.tmp 7, .dat (.int .i64)), (.tmp 8, .dat (.int .i64))]
abbrev idxFuncL_place_o0 : Outs := [(.ret, [(.obj 0, .box 1), (.cell 0 0, .dat (.int .i64)), (.tmp 4, .dat (.int .i64))]), (.exit 0, [(.obj 0, .box 1), (.cell 0 0, .dat (.int .i64))])]
def idxFuncL_place_s0 : (Int × List (List Int) × Int × Int × Unit) → Option ((Int × List (List Int) × Int × Int × Unit) ⊕ (Int × Int × Unit) ⊕ (Int × Unit) ⊕ Unit) := fun (a0, a1, a2, a3, _) =>
 match (ilt a3 a2) with
 | true => match idx a1 a3 with
  | none => none
  | some x0 => match containsI (x0, a0, ()) with
   | none => none
   | some (y1, _) => match y1 with
    | true => some (.inr (.inl (a0, a3, ())))
    | false => some (.inl (a0, a1, a2, (IntKind.wrap .i64 (a3 + 1)), ()))
 | false => some (.inr (.inr (.inl (a0, ()))))
def idxFuncL_place_d : (List (List Int) × Int × Unit) → Option ((Int × Int × Unit)) := fun (a0, a1, _) =>
 match iterL idxFuncL_place_s0 many (a1, a0, (dlen a0), 0, ()) with
 | none => none
 | some r => match r with
  | .inl (o0, o1, _) => some (o0, o1, ())
  | .inr r => match r with
   | .inl (o2, _) => some (o2, (-1 : Int), ())
   | .inr _ => none
def idxFuncL_place (v : (List (List Int) × Int × Unit)) : Option ((Int × Int × Unit)) := lock (idxFuncL_place_d v)
theorem idxFuncL_place_eq (v : (List (List Int) × Int × Unit)) : idxFuncL_place v = idxFuncL_place_d v := lock_eq _
def idxFuncL_place_s0C : (Int × List (List Int) × Int × Int × Unit) → Option ((Int × List (List Int) × Int × Int × Unit) ⊕ (Int × Int × Unit) ⊕ (Int × Unit) ⊕ Unit) := fun (a0, a1, a2, a3, _) =>
 match (iltR a3 a2) with
 | true => match idxR a1 a3 with
  | none => none
  | some x0 => match containsIC (x0, a0, ()) with
   | none => none
   | some (y1, _) => match y1 with
    | true => some (.inr (.inl (a0, a3, ())))
    | false => some (.inl (a0, a1, a2, (IntKind.wrap .i64 (a3 + 1)), ()))
 | false => some (.inr (.inr (.inl (a0, ()))))
theorem idxFuncL_place_s0_ceq : idxFuncL_place_s0 = idxFuncL_place_s0C := by
 funext v
 simp only [idxFuncL_place_s0, idxFuncL_place_s0C, idx_eq, ilt_eqR, containsI_ceq] <;> rfl
def idxFuncL_place_dC : (List (List Int) × Int × Unit) → Option ((Int × Int × Unit)) := fun (a0, a1, _) =>
 match iterO idxFuncL_place_s0C many (a1, a0, (dlen a0), 0, ()) with
 | none => none
 | some r => match r with
  | .inl (o0, o1, _) => some (o0, o1, ())
  | .inr r => match r with
   | .inl (o2, _) => some (o2, (-1 : Int), ())
   | .inr _ => none
theorem idxFuncL_place_d_ceq : idxFuncL_place_d = idxFuncL_place_dC := by
 funext v
 simp only [idxFuncL_place_d, idxFuncL_place_dC, iterL_eq, idxFuncL_place_s0_ceq] <;> rfl
def idxFuncL_placeC (v : denL (leaves idxFuncL_place_i)) : Option (denL (leaves idxFuncL_place_o)) := idxFuncL_place_dC v
theorem idxFuncL_place_ceq : idxFuncL_place = idxFuncL_placeC := by
 funext v
 rw [idxFuncL_place_eq, idxFuncL_place_d_ceq]; rfl
-- archipelago/tour.place
abbrev tplace_i : Items := [(.tmp 0, .dat (.prod (.int .i64) (.prod (.slice (.slice (.int .i64))) .unit))), (.tmp 1, .dat (.int .i64))]
abbrev tplace_o : Items := [(.tmp 0, .dat (.int .i64))]
abbrev tplace_r : List RS := [.one]
def tplace_d : ((Int × (List (List Int)) × Unit) × Int × Unit) → Option ((Int × Unit)) := fun (a0, a1, _) =>
 match idxFuncL_place (a0.2.1, a1, ()) with
 | none => none
 | some (y0, y1, _) => some (y1, ())
def tplace (v : ((Int × (List (List Int)) × Unit) × Int × Unit)) : Option ((Int × Unit)) := lock (tplace_d v)
theorem tplace_eq (v : ((Int × (List (List Int)) × Unit) × Int × Unit)) : tplace v = tplace_d v := lock_eq _
def tplace_dC : ((Int × (List (List Int)) × Unit) × Int × Unit) → Option ((Int × Unit)) := fun (a0, a1, _) =>
 match idxFuncL_placeC (a0.2.1, a1, ()) with
 | none => none
 | some (y0, y1, _) => some (y1, ())
theorem tplace_d_ceq : tplace_d = tplace_dC := by
 funext v
 simp only [tplace_d, tplace_dC, idxFuncL_place_ceq] <;> rfl
def tplaceC (v : denL (leaves tplace_i)) : Option (denL (leaves tplace_o)) := tplace_dC v
theorem tplace_ceq : tplace = tplaceC := by
 funext v
 rw [tplace_eq, tplace_d_ceq]; rfl
-- archipelago/tour.goes
abbrev goes_i : Items := [(.tmp 0, .dat (.int .i64)), (.tmp 1, .dat (.slice (.int .i64)))]
abbrev goes_o : Items := [(.tmp 0, .dat .bool)]
abbrev goes_r : List RS := [.one]
abbrev goes_i0 : Items := [(.tmp 0, .dat (.int .i64)), (.tmp 5, .box 3), (.cell 0 0, .own 3 (.int .i64)), (.cell 0 1, .map (.int .i64) (.int .i64)), (.cell 0 2, .map (.int .i64) (.int .i64)), (.tmp 30, .dat (.slice (.int .i64))), (.tmp 31, .dat (.int .i64)), (.tmp 32, .dat (.int .i64))]
abbrev goes_o0 : Outs := [(.ret, [(.tmp 4, .dat .bool)]), (.exit 0, [(.tmp 5, .box 3), (.cell 0 0, .own 3 (.int .i64)), (.cell 0 1, .map (.int .i64) (.int .i64)), (.cell 0 2, .map (.int .i64) (.int .i64))])]
def goes_s0 : (Int × List Int × List (Int × Int) × List (Int × Int) × List Int × Int × Int × Unit) → Option ((Int × List Int × List (Int × Int) × List (Int × Int) × List Int × Int × Int × Unit) ⊕ (Bool × Unit) ⊕ (List Int × List (Int × Int) × List (Int × Int) × Unit) ⊕ Unit) := fun (a0, a1, a2, a3, a4, a5, a6, _) =>
 match (ilt a6 a5) with
 | true => match idx a4 a6 with
  | none => none
  | some x0 => match ttoken (a0, x0, ()) with
   | none => none
   | some (y1, y2, y3, y4, _) => match (!y4) with
    | true => some (.inr (.inl (false, ())))
    | false => match y3 with
     | true => match idx a1 (IntKind.wrap .i64 ((dlen a1) - 1)) with
      | none => none
      | some x5 => match (!(ieq (dget a1 (dnat (IntKind.wrap .i64 ((dlen a1) - 1))) 0) y1)) with
       | true => some (.inr (.inl (false, ())))
       | false => match (ilt 0 (IntKind.wrap .i64 ((dlen a1) - 1))) with
        | true => match idx a1 (IntKind.wrap .i64 ((IntKind.wrap .i64 ((dlen a1) - 1)) - 1)) with
         | none => none
         | some x6 => match (ieq (dget a1 (dnat (IntKind.wrap .i64 ((IntKind.wrap .i64 ((dlen a1) - 1)) - 1))) 0) y2) with
          | true => match subl a1 0 (IntKind.wrap .i64 ((dlen a1) - 1)) with
           | none => none
           | some x7 => match (!y3) with
            | true => match idx (dcut 0 (dnat (dlen x7)) a1) (IntKind.wrap .i64 ((((dnat (dlen x7)) : Nat) : Int) - 1)) with
             | none => none
             | some x8 => match (!(ieq (dget a1 (0 + (dnat (IntKind.wrap .i64 ((((dnat (dlen x7)) : Nat) : Int) - 1)))) 0) y1)) with
              | true => some (.inr (.inl (false, ())))
              | false => match (!y3) with
               | true => some (.inl (a0, (dtake (dnat (dlen x7)) a1), a2, (storeM a3 y1 (IntKind.wrap .i64 (((lookupM a3 y1).getD 0) + 1))), a4, a5, (IntKind.wrap .i64 (a6 + 1)), ()))
               | false => some (.inl (a0, (dtake (dnat (dlen x7)) a1), a2, a3, a4, a5, (IntKind.wrap .i64 (a6 + 1)), ()))
            | false => match (!y3) with
             | true => some (.inl (a0, (dtake (dnat (dlen x7)) a1), a2, (storeM a3 y1 (IntKind.wrap .i64 (((lookupM a3 y1).getD 0) + 1))), a4, a5, (IntKind.wrap .i64 (a6 + 1)), ()))
             | false => some (.inl (a0, (dtake (dnat (dlen x7)) a1), a2, a3, a4, a5, (IntKind.wrap .i64 (a6 + 1)), ()))
          | false => match (ilt 0 ((lookupM a2 y2).getD 0)) with
           | true => some (.inr (.inl (false, ())))
           | false => match (fits ((dlen a1) + (dlen ([y2] : List (Int))))) with
            | true => match (!y3) with
             | true => match idx (dapp a1 ([y2] : List (Int))) (IntKind.wrap .i64 ((dlen (dapp a1 ([y2] : List (Int)))) - 1)) with
              | none => none
              | some x9 => match (!(ieq (dget (dapp a1 ([y2] : List (Int))) (dnat (IntKind.wrap .i64 ((dlen (dapp a1 ([y2] : List (Int)))) - 1))) 0) y1)) with
               | true => some (.inr (.inl (false, ())))
               | false => match (!y3) with
                | true => some (.inl (a0, (dapp a1 ([y2] : List (Int))), (storeM a2 y2 (IntKind.wrap .i64 (((lookupM a2 y2).getD 0) + 1))), (storeM a3 y1 (IntKind.wrap .i64 (((lookupM a3 y1).getD 0) + 1))), a4, a5, (IntKind.wrap .i64 (a6 + 1)), ()))
                | false => some (.inl (a0, (dapp a1 ([y2] : List (Int))), (storeM a2 y2 (IntKind.wrap .i64 (((lookupM a2 y2).getD 0) + 1))), a3, a4, a5, (IntKind.wrap .i64 (a6 + 1)), ()))
             | false => match (!y3) with
              | true => some (.inl (a0, (dapp a1 ([y2] : List (Int))), (storeM a2 y2 (IntKind.wrap .i64 (((lookupM a2 y2).getD 0) + 1))), (storeM a3 y1 (IntKind.wrap .i64 (((lookupM a3 y1).getD 0) + 1))), a4, a5, (IntKind.wrap .i64 (a6 + 1)), ()))
              | false => some (.inl (a0, (dapp a1 ([y2] : List (Int))), (storeM a2 y2 (IntKind.wrap .i64 (((lookupM a2 y2).getD 0) + 1))), a3, a4, a5, (IntKind.wrap .i64 (a6 + 1)), ()))
            | false => none
        | false => match (ilt 0 ((lookupM a2 y2).getD 0)) with
         | true => some (.inr (.inl (false, ())))
         | false => match (fits ((dlen a1) + (dlen ([y2] : List (Int))))) with
          | true => match (!y3) with
           | true => match idx (dapp a1 ([y2] : List (Int))) (IntKind.wrap .i64 ((dlen (dapp a1 ([y2] : List (Int)))) - 1)) with
            | none => none
            | some x10 => match (!(ieq (dget (dapp a1 ([y2] : List (Int))) (dnat (IntKind.wrap .i64 ((dlen (dapp a1 ([y2] : List (Int)))) - 1))) 0) y1)) with
             | true => some (.inr (.inl (false, ())))
             | false => match (!y3) with
              | true => some (.inl (a0, (dapp a1 ([y2] : List (Int))), (storeM a2 y2 (IntKind.wrap .i64 (((lookupM a2 y2).getD 0) + 1))), (storeM a3 y1 (IntKind.wrap .i64 (((lookupM a3 y1).getD 0) + 1))), a4, a5, (IntKind.wrap .i64 (a6 + 1)), ()))
              | false => some (.inl (a0, (dapp a1 ([y2] : List (Int))), (storeM a2 y2 (IntKind.wrap .i64 (((lookupM a2 y2).getD 0) + 1))), a3, a4, a5, (IntKind.wrap .i64 (a6 + 1)), ()))
           | false => match (!y3) with
            | true => some (.inl (a0, (dapp a1 ([y2] : List (Int))), (storeM a2 y2 (IntKind.wrap .i64 (((lookupM a2 y2).getD 0) + 1))), (storeM a3 y1 (IntKind.wrap .i64 (((lookupM a3 y1).getD 0) + 1))), a4, a5, (IntKind.wrap .i64 (a6 + 1)), ()))
            | false => some (.inl (a0, (dapp a1 ([y2] : List (Int))), (storeM a2 y2 (IntKind.wrap .i64 (((lookupM a2 y2).getD 0) + 1))), a3, a4, a5, (IntKind.wrap .i64 (a6 + 1)), ()))
          | false => none
     | false => match (!y3) with
      | true => match idx a1 (IntKind.wrap .i64 ((dlen a1) - 1)) with
       | none => none
       | some x11 => match (!(ieq (dget a1 (dnat (IntKind.wrap .i64 ((dlen a1) - 1))) 0) y1)) with
        | true => some (.inr (.inl (false, ())))
        | false => match (!y3) with
         | true => some (.inl (a0, a1, a2, (storeM a3 y1 (IntKind.wrap .i64 (((lookupM a3 y1).getD 0) + 1))), a4, a5, (IntKind.wrap .i64 (a6 + 1)), ()))
         | false => some (.inl (a0, a1, a2, a3, a4, a5, (IntKind.wrap .i64 (a6 + 1)), ()))
      | false => match (!y3) with
       | true => some (.inl (a0, a1, a2, (storeM a3 y1 (IntKind.wrap .i64 (((lookupM a3 y1).getD 0) + 1))), a4, a5, (IntKind.wrap .i64 (a6 + 1)), ()))
       | false => some (.inl (a0, a1, a2, a3, a4, a5, (IntKind.wrap .i64 (a6 + 1)), ()))
 | false => some (.inr (.inr (.inl (a1, a2, a3, ()))))
def goes_d : (Int × List Int × Unit) → Option ((Bool × Unit)) := fun (a0, a1, _) =>
 match idx a1 0 with
 | none => none
 | some x0 => match tin (a0, x0, ()) with
  | none => none
  | some (y1, _) => match (!y1) with
   | true => some (false, ())
   | false => match idx a1 0 with
    | none => none
    | some x2 => match idx a1 0 with
     | none => none
     | some x3 => match iterL goes_s0 many (a0, ([x2] : List (Int)), (storeM ([] : List (Int × Int)) x3 1), ([] : List (Int × Int)), a1, (dlen a1), 0, ()) with
      | none => none
      | some r => match r with
       | .inl (o4, _) => some (o4, ())
       | .inr r => match r with
        | .inl (o5, o6, o7, _) => match (ieq (dlen o5) 1) with
         | true => some ((ieq (dlen o7) (dlen o6)), ())
         | false => some (false, ())
        | .inr _ => none
def goes (v : (Int × List Int × Unit)) : Option ((Bool × Unit)) := lock (goes_d v)
theorem goes_eq (v : (Int × List Int × Unit)) : goes v = goes_d v := lock_eq _
def goes_s0C : (Int × List Int × List (Int × Int) × List (Int × Int) × List Int × Int × Int × Unit) → Option ((Int × List Int × List (Int × Int) × List (Int × Int) × List Int × Int × Int × Unit) ⊕ (Bool × Unit) ⊕ (List Int × List (Int × Int) × List (Int × Int) × Unit) ⊕ Unit) := fun (a0, a1, a2, a3, a4, a5, a6, _) =>
 match (iltR a6 a5) with
 | true => match idxR a4 a6 with
  | none => none
  | some x0 => match ttokenC (a0, x0, ()) with
   | none => none
   | some (y1, y2, y3, y4, _) => match (!y4) with
    | true => some (.inr (.inl (false, ())))
    | false => match y3 with
     | true => match idxR a1 (IntKind.wrap .i64 ((dlen a1) - 1)) with
      | none => none
      | some x5 => match (!(ieqR (dget a1 (dnat (IntKind.wrap .i64 ((dlen a1) - 1))) 0) y1)) with
       | true => some (.inr (.inl (false, ())))
       | false => match (iltR 0 (IntKind.wrap .i64 ((dlen a1) - 1))) with
        | true => match idxR a1 (IntKind.wrap .i64 ((IntKind.wrap .i64 ((dlen a1) - 1)) - 1)) with
         | none => none
         | some x6 => match (ieqR (dget a1 (dnat (IntKind.wrap .i64 ((IntKind.wrap .i64 ((dlen a1) - 1)) - 1))) 0) y2) with
          | true => match sublR a1 0 (IntKind.wrap .i64 ((dlen a1) - 1)) with
           | none => none
           | some x7 => match (!y3) with
            | true => match idxR (dcut 0 (dnat (dlen x7)) a1) (IntKind.wrap .i64 ((((dnat (dlen x7)) : Nat) : Int) - 1)) with
             | none => none
             | some x8 => match (!(ieqR (dget a1 (0 + (dnat (IntKind.wrap .i64 ((((dnat (dlen x7)) : Nat) : Int) - 1)))) 0) y1)) with
              | true => some (.inr (.inl (false, ())))
              | false => match (!y3) with
               | true => some (.inl (a0, (dtake (dnat (dlen x7)) a1), a2, (storeM a3 y1 (IntKind.wrap .i64 (((lookupM a3 y1).getD 0) + 1))), a4, a5, (IntKind.wrap .i64 (a6 + 1)), ()))
               | false => some (.inl (a0, (dtake (dnat (dlen x7)) a1), a2, a3, a4, a5, (IntKind.wrap .i64 (a6 + 1)), ()))
            | false => match (!y3) with
             | true => some (.inl (a0, (dtake (dnat (dlen x7)) a1), a2, (storeM a3 y1 (IntKind.wrap .i64 (((lookupM a3 y1).getD 0) + 1))), a4, a5, (IntKind.wrap .i64 (a6 + 1)), ()))
             | false => some (.inl (a0, (dtake (dnat (dlen x7)) a1), a2, a3, a4, a5, (IntKind.wrap .i64 (a6 + 1)), ()))
          | false => match (iltR 0 ((lookupM a2 y2).getD 0)) with
           | true => some (.inr (.inl (false, ())))
           | false => match (fitsR ((dlen a1) + (dlen ([y2] : List (Int))))) with
            | true => match (!y3) with
             | true => match idxR (dapp a1 ([y2] : List (Int))) (IntKind.wrap .i64 ((dlen (dapp a1 ([y2] : List (Int)))) - 1)) with
              | none => none
              | some x9 => match (!(ieqR (dget (dapp a1 ([y2] : List (Int))) (dnat (IntKind.wrap .i64 ((dlen (dapp a1 ([y2] : List (Int)))) - 1))) 0) y1)) with
               | true => some (.inr (.inl (false, ())))
               | false => match (!y3) with
                | true => some (.inl (a0, (dapp a1 ([y2] : List (Int))), (storeM a2 y2 (IntKind.wrap .i64 (((lookupM a2 y2).getD 0) + 1))), (storeM a3 y1 (IntKind.wrap .i64 (((lookupM a3 y1).getD 0) + 1))), a4, a5, (IntKind.wrap .i64 (a6 + 1)), ()))
                | false => some (.inl (a0, (dapp a1 ([y2] : List (Int))), (storeM a2 y2 (IntKind.wrap .i64 (((lookupM a2 y2).getD 0) + 1))), a3, a4, a5, (IntKind.wrap .i64 (a6 + 1)), ()))
             | false => match (!y3) with
              | true => some (.inl (a0, (dapp a1 ([y2] : List (Int))), (storeM a2 y2 (IntKind.wrap .i64 (((lookupM a2 y2).getD 0) + 1))), (storeM a3 y1 (IntKind.wrap .i64 (((lookupM a3 y1).getD 0) + 1))), a4, a5, (IntKind.wrap .i64 (a6 + 1)), ()))
              | false => some (.inl (a0, (dapp a1 ([y2] : List (Int))), (storeM a2 y2 (IntKind.wrap .i64 (((lookupM a2 y2).getD 0) + 1))), a3, a4, a5, (IntKind.wrap .i64 (a6 + 1)), ()))
            | false => none
        | false => match (iltR 0 ((lookupM a2 y2).getD 0)) with
         | true => some (.inr (.inl (false, ())))
         | false => match (fitsR ((dlen a1) + (dlen ([y2] : List (Int))))) with
          | true => match (!y3) with
           | true => match idxR (dapp a1 ([y2] : List (Int))) (IntKind.wrap .i64 ((dlen (dapp a1 ([y2] : List (Int)))) - 1)) with
            | none => none
            | some x10 => match (!(ieqR (dget (dapp a1 ([y2] : List (Int))) (dnat (IntKind.wrap .i64 ((dlen (dapp a1 ([y2] : List (Int)))) - 1))) 0) y1)) with
             | true => some (.inr (.inl (false, ())))
             | false => match (!y3) with
              | true => some (.inl (a0, (dapp a1 ([y2] : List (Int))), (storeM a2 y2 (IntKind.wrap .i64 (((lookupM a2 y2).getD 0) + 1))), (storeM a3 y1 (IntKind.wrap .i64 (((lookupM a3 y1).getD 0) + 1))), a4, a5, (IntKind.wrap .i64 (a6 + 1)), ()))
              | false => some (.inl (a0, (dapp a1 ([y2] : List (Int))), (storeM a2 y2 (IntKind.wrap .i64 (((lookupM a2 y2).getD 0) + 1))), a3, a4, a5, (IntKind.wrap .i64 (a6 + 1)), ()))
           | false => match (!y3) with
            | true => some (.inl (a0, (dapp a1 ([y2] : List (Int))), (storeM a2 y2 (IntKind.wrap .i64 (((lookupM a2 y2).getD 0) + 1))), (storeM a3 y1 (IntKind.wrap .i64 (((lookupM a3 y1).getD 0) + 1))), a4, a5, (IntKind.wrap .i64 (a6 + 1)), ()))
            | false => some (.inl (a0, (dapp a1 ([y2] : List (Int))), (storeM a2 y2 (IntKind.wrap .i64 (((lookupM a2 y2).getD 0) + 1))), a3, a4, a5, (IntKind.wrap .i64 (a6 + 1)), ()))
          | false => none
     | false => match (!y3) with
      | true => match idxR a1 (IntKind.wrap .i64 ((dlen a1) - 1)) with
       | none => none
       | some x11 => match (!(ieqR (dget a1 (dnat (IntKind.wrap .i64 ((dlen a1) - 1))) 0) y1)) with
        | true => some (.inr (.inl (false, ())))
        | false => match (!y3) with
         | true => some (.inl (a0, a1, a2, (storeM a3 y1 (IntKind.wrap .i64 (((lookupM a3 y1).getD 0) + 1))), a4, a5, (IntKind.wrap .i64 (a6 + 1)), ()))
         | false => some (.inl (a0, a1, a2, a3, a4, a5, (IntKind.wrap .i64 (a6 + 1)), ()))
      | false => match (!y3) with
       | true => some (.inl (a0, a1, a2, (storeM a3 y1 (IntKind.wrap .i64 (((lookupM a3 y1).getD 0) + 1))), a4, a5, (IntKind.wrap .i64 (a6 + 1)), ()))
       | false => some (.inl (a0, a1, a2, a3, a4, a5, (IntKind.wrap .i64 (a6 + 1)), ()))
 | false => some (.inr (.inr (.inl (a1, a2, a3, ()))))
theorem goes_s0_ceq : goes_s0 = goes_s0C := by
 funext v
 simp only [goes_s0, goes_s0C, idx_eq, subl_eq, fits_eq, ilt_eqR, ieq_eqR, ttoken_ceq] <;> rfl
def goes_dC : (Int × List Int × Unit) → Option ((Bool × Unit)) := fun (a0, a1, _) =>
 match idxR a1 0 with
 | none => none
 | some x0 => match tinC (a0, x0, ()) with
  | none => none
  | some (y1, _) => match (!y1) with
   | true => some (false, ())
   | false => match idxR a1 0 with
    | none => none
    | some x2 => match idxR a1 0 with
     | none => none
     | some x3 => match iterO goes_s0C many (a0, ([x2] : List (Int)), (storeM ([] : List (Int × Int)) x3 1), ([] : List (Int × Int)), a1, (dlen a1), 0, ()) with
      | none => none
      | some r => match r with
       | .inl (o4, _) => some (o4, ())
       | .inr r => match r with
        | .inl (o5, o6, o7, _) => match (ieqR (dlen o5) 1) with
         | true => some ((ieqR (dlen o7) (dlen o6)), ())
         | false => some (false, ())
        | .inr _ => none
theorem goes_d_ceq : goes_d = goes_dC := by
 funext v
 simp only [goes_d, goes_dC, idx_eq, iterL_eq, ieq_eqR, tin_ceq, goes_s0_ceq] <;> rfl
def goesC (v : denL (leaves goes_i)) : Option (denL (leaves goes_o)) := goes_dC v
theorem goes_ceq : goes = goesC := by
 funext v
 rw [goes_eq, goes_d_ceq]; rfl
-- archipelago/tour.Right
abbrev tright_i : Items := [(.tmp 0, .dat (.prod (.int .i64) (.prod (.slice (.slice (.int .i64))) .unit)))]
abbrev tright_o : Items := [(.tmp 0, .dat .bool)]
abbrev tright_r : List RS := [.one]
abbrev tright_i2 : Items := [(.tmp 3, .map (.int .i64) (.int .i64)), (.tmp 78, .dat (.int .i64)), (.tmp 79, .dat (.int .i64))]
abbrev tright_o2 : Outs := [(.ret, [(.tmp 2, .dat .bool)]), (.exit 4, [])]
def tright_s2 : (List (Int × Int) × Int × Int × Unit) → Option ((List (Int × Int) × Int × Int × Unit) ⊕ (Bool × Unit) ⊕ (Unit) ⊕ Unit) := fun (a0, a1, a2, _) =>
 match (ilt a2 a1) with
 | true => match (ieq ((lookupM a0 a2).getD 0) 0) with
  | true => some (.inr (.inl (false, ())))
  | false => some (.inl (a0, a1, (IntKind.wrap .i64 (a2 + 1)), ()))
 | false => some (.inr (.inr (.inl ())))
abbrev tright_i1 : Items := [(.tmp 1, .box 2), (.cell 0 0, .dat (.int .i64)), (.cell 0 1, .dat (.slice (.slice (.int .i64)))), (.tmp 3, .map (.int .i64) (.int .i64)), (.tmp 4, .dat (.int .i64)), (.tmp 16, .dat (.slice (.slice (.int .i64)))), (.tmp 17, .dat (.int .i64)), (.tmp 18, .dat (.int .i64)), (.tmp 26, .dat (.slice (.int .i64))), (.tmp 28, .dat (.int .i64)), (.tmp 29, .dat (.int .i64)), (.tmp 30, .dat .bool), (.tmp 33, .dat (.slice (.int .i64))), (.tmp 34, .dat .bool), (.tmp 35, .dat .bool), (.tmp 38, .dat (.slice (.int .i64))), (.tmp 39, .dat (.int .i64)), (.tmp 40, .dat (.slice (.int .i64))), (.tmp 42, .dat (.int .i64)), (.tmp 43, .dat .bool), (.tmp 46, .ptr' 0 0), (.tmp 47, .dat (.int .i64)), (.tmp 48, .dat (.slice (.int .i64))), (.tmp 49, .dat .bool), (.tmp 50, .dat .bool), (.tmp 55, .dat (.slice (.int .i64))), (.tmp 56, .dat (.int .i64)), (.tmp 57, .dat (.int .i64))]
abbrev tright_o1 : Outs := [(.ret, [(.tmp 2, .dat .bool)]), (.exit 2, [(.tmp 1, .box 2), (.cell 0 0, .dat (.int .i64)), (.cell 0 1, .dat (.slice (.slice (.int .i64)))), (.tmp 3, .map (.int .i64) (.int .i64)), (.tmp 4, .dat (.int .i64)), (.tmp 16, .dat (.slice (.slice (.int .i64)))), (.tmp 17, .dat (.int .i64)), (.tmp 18, .dat (.int .i64)), (.tmp 26, .dat (.slice (.int .i64))), (.tmp 28, .dat (.int .i64)), (.tmp 29, .dat (.int .i64)), (.tmp 30, .dat .bool), (.tmp 33, .dat (.slice (.int .i64))), (.tmp 34, .dat .bool), (.tmp 35, .dat .bool), (.tmp 38, .dat (.slice (.int .i64))), (.tmp 39, .dat (.int .i64)), (.tmp 40, .dat (.slice (.int .i64))), (.tmp 42, .dat (.int .i64)), (.tmp 43, .dat .bool), (.tmp 46, .ptr' 0 0), (.tmp 47, .dat (.int .i64)), (.tmp 48, .dat (.slice (.int .i64))), (.tmp 49, .dat .bool), (.tmp 50, .dat .bool)])]
def tright_s1 : (Int × List (List Int) × List (Int × Int) × Int × List (List Int) × Int × Int × List Int × Int × Int × Bool × List Int × Bool × Bool × List Int × Int × List Int × Int × Bool × Int × List Int × Bool × Bool × List Int × Int × Int × Unit) → Option ((Int × List (List Int) × List (Int × Int) × Int × List (List Int) × Int × Int × List Int × Int × Int × Bool × List Int × Bool × Bool × List Int × Int × List Int × Int × Bool × Int × List Int × Bool × Bool × List Int × Int × Int × Unit) ⊕ (Bool × Unit) ⊕ (Int × List (List Int) × List (Int × Int) × Int × List (List Int) × Int × Int × List Int × Int × Int × Bool × List Int × Bool × Bool × List Int × Int × List Int × Int × Bool × Int × List Int × Bool × Bool × Unit) ⊕ Unit) := fun (a0, a1, a2, a3, a4, a5, a6, a7, a8, a9, a10, a11, a12, a13, a14, a15, a16, a17, a18, a19, a20, a21, a22, a23, a24, a25, _) =>
 match (ilt a25 a24) with
 | true => match idx a23 a25 with
  | none => none
  | some x0 => match (ilt x0 a0) with
   | true => match (ilt 0 ((lookupM a2 x0).getD 0)) with
    | true => some (.inr (.inl (false, ())))
    | false => some (.inl (a0, a1, (storeM a2 x0 (IntKind.wrap .i64 (((lookupM a2 x0).getD 0) + 1))), a3, a4, a5, a6, a7, a8, a9, a10, a11, a12, a13, a14, a15, a16, a17, a18, a19, a20, a21, a22, a23, a24, (IntKind.wrap .i64 (a25 + 1)), ()))
   | false => some (.inl (a0, a1, (storeM a2 x0 (IntKind.wrap .i64 (((lookupM a2 x0).getD 0) + 1))), a3, a4, a5, a6, a7, a8, a9, a10, a11, a12, a13, a14, a15, a16, a17, a18, a19, a20, a21, a22, a23, a24, (IntKind.wrap .i64 (a25 + 1)), ()))
 | false => some (.inr (.inr (.inl (a0, a1, a2, a3, a4, a5, a6, a7, a8, a9, a10, a11, a12, a13, a14, a15, a16, a17, a18, a19, a20, a21, a22, ()))))
abbrev tright_i0 : Items := [(.tmp 1, .box 2), (.cell 0 0, .dat (.int .i64)), (.cell 0 1, .dat (.slice (.slice (.int .i64)))), (.tmp 3, .map (.int .i64) (.int .i64)), (.tmp 4, .dat (.int .i64)), (.tmp 16, .dat (.slice (.slice (.int .i64)))), (.tmp 17, .dat (.int .i64)), (.tmp 18, .dat (.int .i64))]
abbrev tright_o0 : Outs := [(.ret, [(.tmp 2, .dat .bool)]), (.exit 0, [(.tmp 1, .box 2), (.cell 0 0, .dat (.int .i64)), (.cell 0 1, .dat (.slice (.slice (.int .i64)))), (.tmp 3, .map (.int .i64) (.int .i64))])]
def tright_s0 : (Int × List (List Int) × List (Int × Int) × Int × List (List Int) × Int × Int × Unit) → Option ((Int × List (List Int) × List (Int × Int) × Int × List (List Int) × Int × Int × Unit) ⊕ (Bool × Unit) ⊕ (Int × List (List Int) × List (Int × Int) × Unit) ⊕ Unit) := fun (a0, a1, a2, a3, a4, a5, a6, _) =>
 match (ilt a6 a5) with
 | true => match idx a4 a6 with
  | none => none
  | some x0 => match (ieq (dlen x0) 0) with
   | true => some (.inr (.inl (false, ())))
   | false => match idx x0 0 with
    | none => none
    | some x1 => match (ile x1 a3) with
     | true => some (.inr (.inl (false, ())))
     | false => match rright (x0, ()) with
      | none => none
      | some (y2, _) => match (!y2) with
       | true => some (.inr (.inl (false, ())))
       | false => match minI (x0, ()) with
        | none => none
        | some (y3, _) => match idx x0 0 with
         | none => none
         | some x4 => match (!(ieq y3 x4)) with
          | true => some (.inr (.inl (false, ())))
          | false => match goes (a0, x0, ()) with
           | none => none
           | some (y5, _) => match (!y5) with
            | true => some (.inr (.inl (false, ())))
            | false => match idx x0 0 with
             | none => none
             | some x6 => match iterL tright_s1 many (a0, a1, a2, x6, a4, a5, a6, x0, x1, a3, (ile x1 a3), x0, y2, (!y2), x0, y3, x0, x4, (!(ieq y3 x4)), a0, x0, y5, (!y5), x0, (dlen x0), 0, ()) with
              | none => none
              | some r => match r with
               | .inl (o7, _) => some (.inr (.inl (o7, ())))
               | .inr r => match r with
                | .inl (o8, o9, o10, o11, o12, o13, o14, o15, o16, o17, o18, o19, o20, o21, o22, o23, o24, o25, o26, o27, o28, o29, o30, _) => some (.inl (o8, o9, o10, o11, o12, o13, (IntKind.wrap .i64 (o14 + 1)), ()))
                | .inr _ => none
 | false => some (.inr (.inr (.inl (a0, a1, a2, ()))))
def tright_d : ((Int × (List (List Int)) × Unit) × Unit) → Option ((Bool × Unit)) := fun (a0, _) =>
 match tsized (a0.1, ()) with
 | none => none
 | some (y0, _) => match (!y0) with
  | true => some (false, ())
  | false => match iterL tright_s0 many (a0.1, a0.2.1, ([] : List (Int × Int)), (-1 : Int), a0.2.1, (dlen a0.2.1), 0, ()) with
   | none => none
   | some r => match r with
    | .inl (o1, _) => some (o1, ())
    | .inr r => match r with
     | .inl (o2, o3, o4, _) => match iterL tright_s2 many (o4, o2, 0, ()) with
      | none => none
      | some r => match r with
       | .inl (o5, _) => some (o5, ())
       | .inr r => match r with
        | .inl _ => some (true, ())
        | .inr _ => none
     | .inr _ => none
def tright (v : ((Int × (List (List Int)) × Unit) × Unit)) : Option ((Bool × Unit)) := lock (tright_d v)
theorem tright_eq (v : ((Int × (List (List Int)) × Unit) × Unit)) : tright v = tright_d v := lock_eq _
def tright_s2C : (List (Int × Int) × Int × Int × Unit) → Option ((List (Int × Int) × Int × Int × Unit) ⊕ (Bool × Unit) ⊕ (Unit) ⊕ Unit) := fun (a0, a1, a2, _) =>
 match (iltR a2 a1) with
 | true => match (ieqR ((lookupM a0 a2).getD 0) 0) with
  | true => some (.inr (.inl (false, ())))
  | false => some (.inl (a0, a1, (IntKind.wrap .i64 (a2 + 1)), ()))
 | false => some (.inr (.inr (.inl ())))
theorem tright_s2_ceq : tright_s2 = tright_s2C := by
 funext v
 simp only [tright_s2, tright_s2C, ilt_eqR, ieq_eqR] <;> rfl
def tright_s1C : (Int × List (List Int) × List (Int × Int) × Int × List (List Int) × Int × Int × List Int × Int × Int × Bool × List Int × Bool × Bool × List Int × Int × List Int × Int × Bool × Int × List Int × Bool × Bool × List Int × Int × Int × Unit) → Option ((Int × List (List Int) × List (Int × Int) × Int × List (List Int) × Int × Int × List Int × Int × Int × Bool × List Int × Bool × Bool × List Int × Int × List Int × Int × Bool × Int × List Int × Bool × Bool × List Int × Int × Int × Unit) ⊕ (Bool × Unit) ⊕ (Int × List (List Int) × List (Int × Int) × Int × List (List Int) × Int × Int × List Int × Int × Int × Bool × List Int × Bool × Bool × List Int × Int × List Int × Int × Bool × Int × List Int × Bool × Bool × Unit) ⊕ Unit) := fun (a0, a1, a2, a3, a4, a5, a6, a7, a8, a9, a10, a11, a12, a13, a14, a15, a16, a17, a18, a19, a20, a21, a22, a23, a24, a25, _) =>
 match (iltR a25 a24) with
 | true => match idxR a23 a25 with
  | none => none
  | some x0 => match (iltR x0 a0) with
   | true => match (iltR 0 ((lookupM a2 x0).getD 0)) with
    | true => some (.inr (.inl (false, ())))
    | false => some (.inl (a0, a1, (storeM a2 x0 (IntKind.wrap .i64 (((lookupM a2 x0).getD 0) + 1))), a3, a4, a5, a6, a7, a8, a9, a10, a11, a12, a13, a14, a15, a16, a17, a18, a19, a20, a21, a22, a23, a24, (IntKind.wrap .i64 (a25 + 1)), ()))
   | false => some (.inl (a0, a1, (storeM a2 x0 (IntKind.wrap .i64 (((lookupM a2 x0).getD 0) + 1))), a3, a4, a5, a6, a7, a8, a9, a10, a11, a12, a13, a14, a15, a16, a17, a18, a19, a20, a21, a22, a23, a24, (IntKind.wrap .i64 (a25 + 1)), ()))
 | false => some (.inr (.inr (.inl (a0, a1, a2, a3, a4, a5, a6, a7, a8, a9, a10, a11, a12, a13, a14, a15, a16, a17, a18, a19, a20, a21, a22, ()))))
theorem tright_s1_ceq : tright_s1 = tright_s1C := by
 funext v
 simp only [tright_s1, tright_s1C, idx_eq, ilt_eqR] <;> rfl
def tright_s0C : (Int × List (List Int) × List (Int × Int) × Int × List (List Int) × Int × Int × Unit) → Option ((Int × List (List Int) × List (Int × Int) × Int × List (List Int) × Int × Int × Unit) ⊕ (Bool × Unit) ⊕ (Int × List (List Int) × List (Int × Int) × Unit) ⊕ Unit) := fun (a0, a1, a2, a3, a4, a5, a6, _) =>
 match (iltR a6 a5) with
 | true => match idxR a4 a6 with
  | none => none
  | some x0 => match (ieqR (dlen x0) 0) with
   | true => some (.inr (.inl (false, ())))
   | false => match idxR x0 0 with
    | none => none
    | some x1 => match (ileR x1 a3) with
     | true => some (.inr (.inl (false, ())))
     | false => match rrightC (x0, ()) with
      | none => none
      | some (y2, _) => match (!y2) with
       | true => some (.inr (.inl (false, ())))
       | false => match minIC (x0, ()) with
        | none => none
        | some (y3, _) => match idxR x0 0 with
         | none => none
         | some x4 => match (!(ieqR y3 x4)) with
          | true => some (.inr (.inl (false, ())))
          | false => match goesC (a0, x0, ()) with
           | none => none
           | some (y5, _) => match (!y5) with
            | true => some (.inr (.inl (false, ())))
            | false => match idxR x0 0 with
             | none => none
             | some x6 => match iterO tright_s1C many (a0, a1, a2, x6, a4, a5, a6, x0, x1, a3, (ileR x1 a3), x0, y2, (!y2), x0, y3, x0, x4, (!(ieqR y3 x4)), a0, x0, y5, (!y5), x0, (dlen x0), 0, ()) with
              | none => none
              | some r => match r with
               | .inl (o7, _) => some (.inr (.inl (o7, ())))
               | .inr r => match r with
                | .inl (o8, o9, o10, o11, o12, o13, o14, o15, o16, o17, o18, o19, o20, o21, o22, o23, o24, o25, o26, o27, o28, o29, o30, _) => some (.inl (o8, o9, o10, o11, o12, o13, (IntKind.wrap .i64 (o14 + 1)), ()))
                | .inr _ => none
 | false => some (.inr (.inr (.inl (a0, a1, a2, ()))))
theorem tright_s0_ceq : tright_s0 = tright_s0C := by
 funext v
 simp only [tright_s0, tright_s0C, idx_eq, iterL_eq, ilt_eqR, ile_eqR, ieq_eqR, minI_ceq, rright_ceq, goes_ceq, tright_s1_ceq] <;> rfl
def tright_dC : ((Int × (List (List Int)) × Unit) × Unit) → Option ((Bool × Unit)) := fun (a0, _) =>
 match tsizedC (a0.1, ()) with
 | none => none
 | some (y0, _) => match (!y0) with
  | true => some (false, ())
  | false => match iterO tright_s0C many (a0.1, a0.2.1, ([] : List (Int × Int)), (-1 : Int), a0.2.1, (dlen a0.2.1), 0, ()) with
   | none => none
   | some r => match r with
    | .inl (o1, _) => some (o1, ())
    | .inr r => match r with
     | .inl (o2, o3, o4, _) => match iterO tright_s2C many (o4, o2, 0, ()) with
      | none => none
      | some r => match r with
       | .inl (o5, _) => some (o5, ())
       | .inr r => match r with
        | .inl _ => some (true, ())
        | .inr _ => none
     | .inr _ => none
theorem tright_d_ceq : tright_d = tright_dC := by
 funext v
 simp only [tright_d, tright_dC, iterL_eq, tsized_ceq, tright_s2_ceq, tright_s0_ceq] <;> rfl
def trightC (v : denL (leaves tright_i)) : Option (denL (leaves tright_o)) := tright_dC v
theorem tright_ceq : tright = trightC := by
 funext v
 rw [tright_eq, tright_d_ceq]; rfl
-- archipelago/tour.Of
abbrev tof_i : Items := [(.tmp 0, .dat (.prod (.int .i64) (.prod (.slice (.slice (.int .i64))) .unit))), (.tmp 1, .dat (.int .i64))]
abbrev tof_o : Items := [(.tmp 0, .dat (.int .i64))]
abbrev tof_r : List RS := [.one]
def tof_d : ((Int × (List (List Int)) × Unit) × Int × Unit) → Option ((Int × Unit)) := fun (a0, a1, _) =>
 match tin (a0.1, a1, ()) with
 | none => none
 | some (y0, _) => match (!y0) with
  | true => some ((-1 : Int), ())
  | false => match tright ((a0.1, (a0.2.1, ())), ()) with
   | none => none
   | some (y1, _) => match (!y1) with
    | true => some ((-1 : Int), ())
    | false => match tplace ((a0.1, (a0.2.1, ())), a1, ()) with
     | none => none
     | some (y2, _) => some (y2, ())
def tof (v : ((Int × (List (List Int)) × Unit) × Int × Unit)) : Option ((Int × Unit)) := lock (tof_d v)
theorem tof_eq (v : ((Int × (List (List Int)) × Unit) × Int × Unit)) : tof v = tof_d v := lock_eq _
def tof_dC : ((Int × (List (List Int)) × Unit) × Int × Unit) → Option ((Int × Unit)) := fun (a0, a1, _) =>
 match tinC (a0.1, a1, ()) with
 | none => none
 | some (y0, _) => match (!y0) with
  | true => some ((-1 : Int), ())
  | false => match trightC ((a0.1, (a0.2.1, ())), ()) with
   | none => none
   | some (y1, _) => match (!y1) with
    | true => some ((-1 : Int), ())
    | false => match tplaceC ((a0.1, (a0.2.1, ())), a1, ()) with
     | none => none
     | some (y2, _) => some (y2, ())
theorem tof_d_ceq : tof_d = tof_dC := by
 funext v
 simp only [tof_d, tof_dC, tin_ceq, tplace_ceq, tright_ceq] <;> rfl
def tofC (v : denL (leaves tof_i)) : Option (denL (leaves tof_o)) := tof_dC v
theorem tof_ceq : tof = tofC := by
 funext v
 rw [tof_eq, tof_d_ceq]; rfl
-- archipelago/tour.asked
abbrev asked_i : Items := [(.tmp 0, .dat (.prod (.int .i64) (.prod (.slice (.slice (.int .i64))) .unit))), (.tmp 1, .dat (.int .i64)), (.tmp 2, .dat (.int .i64))]
abbrev asked_o : Items := [(.tmp 0, .dat (.int .i64))]
abbrev asked_r : List RS := [.one]
def asked_d : ((Int × (List (List Int)) × Unit) × Int × Int × Unit) → Option ((Int × Unit)) := fun (a0, a1, a2, _) =>
 match tright ((a0.1, (a0.2.1, ())), ()) with
 | none => none
 | some (y0, _) => match (!y0) with
  | true => some (1, ())
  | false => match tin (a0.1, a1, ()) with
   | none => none
   | some (y1, _) => match (!y1) with
    | true => some (10, ())
    | false => match tin (a0.1, a2, ()) with
     | none => none
     | some (y2, _) => match (!y2) with
      | true => some (10, ())
      | false => some (0, ())
def asked (v : ((Int × (List (List Int)) × Unit) × Int × Int × Unit)) : Option ((Int × Unit)) := lock (asked_d v)
theorem asked_eq (v : ((Int × (List (List Int)) × Unit) × Int × Int × Unit)) : asked v = asked_d v := lock_eq _
def asked_dC : ((Int × (List (List Int)) × Unit) × Int × Int × Unit) → Option ((Int × Unit)) := fun (a0, a1, a2, _) =>
 match trightC ((a0.1, (a0.2.1, ())), ()) with
 | none => none
 | some (y0, _) => match (!y0) with
  | true => some (1, ())
  | false => match tinC (a0.1, a1, ()) with
   | none => none
   | some (y1, _) => match (!y1) with
    | true => some (10, ())
    | false => match tinC (a0.1, a2, ()) with
     | none => none
     | some (y2, _) => match (!y2) with
      | true => some (10, ())
      | false => some (0, ())
theorem asked_d_ceq : asked_d = asked_dC := by
 funext v
 simp only [asked_d, asked_dC, tin_ceq, tright_ceq] <;> rfl
def askedC (v : denL (leaves asked_i)) : Option (denL (leaves asked_o)) := asked_dC v
theorem asked_ceq : asked = askedC := by
 funext v
 rw [asked_eq, asked_d_ceq]; rfl
-- cmp.isNaN[int]
abbrev nanI_i : Items := [(.tmp 0, .dat (.int .i64))]
abbrev nanI_o : Items := [(.tmp 0, .dat .bool)]
abbrev nanI_r : List RS := [.one]
def nanI_d : (Int × Unit) → Option ((Bool × Unit)) := fun (a0, _) =>
 some ((!(ieq a0 a0)), ())
def nanI (v : (Int × Unit)) : Option ((Bool × Unit)) := lock (nanI_d v)
theorem nanI_eq (v : (Int × Unit)) : nanI v = nanI_d v := lock_eq _
def nanI_dC : (Int × Unit) → Option ((Bool × Unit)) := fun (a0, _) =>
 some ((!(ieqR a0 a0)), ())
theorem nanI_d_ceq : nanI_d = nanI_dC := by
 funext v
 simp only [nanI_d, nanI_dC, ieq_eqR] <;> rfl
def nanIC (v : denL (leaves nanI_i)) : Option (denL (leaves nanI_o)) := nanI_dC v
theorem nanI_ceq : nanI = nanIC := by
 funext v
 rw [nanI_eq, nanI_d_ceq]; rfl
-- cmp.Compare[int]
abbrev compareI_i : Items := [(.tmp 0, .dat (.int .i64)), (.tmp 1, .dat (.int .i64))]
abbrev compareI_o : Items := [(.tmp 0, .dat (.int .i64))]
abbrev compareI_r : List RS := [.one]
def compareI_d : (Int × Int × Unit) → Option ((Int × Unit)) := fun (a0, a1, _) =>
 match nanI (a0, ()) with
 | none => none
 | some (y0, _) => match nanI (a1, ()) with
  | none => none
  | some (y1, _) => match y0 with
   | true => match y1 with
    | true => some (0, ())
    | false => some ((-1 : Int), ())
   | false => match y1 with
    | true => some (1, ())
    | false => match (ilt a0 a1) with
     | true => some ((-1 : Int), ())
     | false => match (ilt a1 a0) with
      | true => some (1, ())
      | false => some (0, ())
def compareI (v : (Int × Int × Unit)) : Option ((Int × Unit)) := lock (compareI_d v)
theorem compareI_eq (v : (Int × Int × Unit)) : compareI v = compareI_d v := lock_eq _
def compareI_dC : (Int × Int × Unit) → Option ((Int × Unit)) := fun (a0, a1, _) =>
 match nanIC (a0, ()) with
 | none => none
 | some (y0, _) => match nanIC (a1, ()) with
  | none => none
  | some (y1, _) => match y0 with
   | true => match y1 with
    | true => some (0, ())
    | false => some ((-1 : Int), ())
   | false => match y1 with
    | true => some (1, ())
    | false => match (iltR a0 a1) with
     | true => some ((-1 : Int), ())
     | false => match (iltR a1 a0) with
      | true => some (1, ())
      | false => some (0, ())
theorem compareI_d_ceq : compareI_d = compareI_dC := by
 funext v
 simp only [compareI_d, compareI_dC, ilt_eqR, nanI_ceq] <;> rfl
def compareIC (v : denL (leaves compareI_i)) : Option (denL (leaves compareI_o)) := compareI_dC v
theorem compareI_ceq : compareI = compareIC := by
 funext v
 rw [compareI_eq, compareI_d_ceq]; rfl
-- archipelago/tour.with$1
abbrev with1_i : Items := [(.tmp 0, .dat (.slice (.int .i64))), (.tmp 1, .dat (.slice (.int .i64)))]
abbrev with1_o : Items := [(.tmp 0, .dat (.int .i64))]
abbrev with1_r : List RS := [.one]
def with1_d : (List Int × List Int × Unit) → Option ((Int × Unit)) := fun (a0, a1, _) =>
 match idx a0 0 with
 | none => none
 | some x0 => match idx a1 0 with
  | none => none
  | some x1 => match compareI (x0, x1, ()) with
   | none => none
   | some (y2, _) => some (y2, ())
def with1 (v : (List Int × List Int × Unit)) : Option ((Int × Unit)) := lock (with1_d v)
theorem with1_eq (v : (List Int × List Int × Unit)) : with1 v = with1_d v := lock_eq _
def with1_dC : (List Int × List Int × Unit) → Option ((Int × Unit)) := fun (a0, a1, _) =>
 match idxR a0 0 with
 | none => none
 | some x0 => match idxR a1 0 with
  | none => none
  | some x1 => match compareIC (x0, x1, ()) with
   | none => none
   | some (y2, _) => some (y2, ())
theorem with1_d_ceq : with1_d = with1_dC := by
 funext v
 simp only [with1_d, with1_dC, idx_eq, compareI_ceq] <;> rfl
def with1C (v : denL (leaves with1_i)) : Option (denL (leaves with1_o)) := with1_dC v
theorem with1_ceq : with1 = with1C := by
 funext v
 rw [with1_eq, with1_d_ceq]; rfl
-- math/bits.Len64
abbrev len64_i : Items := [(.tmp 0, .dat (.int .u64))]
abbrev len64_o : Items := [(.tmp 0, .dat (.int .i64))]
abbrev len64_r : List RS := [.one]
def len64_d : (Int × Unit) → Option ((Int × Unit)) := fun (a0, _) =>
 match (ile 4294967296 a0) with
 | true => match shr? .u64 a0 32 with
  | none => none
  | some x0 => match (ile 65536 x0) with
   | true => match shr? .u64 x0 16 with
    | none => none
    | some x1 => match (ile 256 x1) with
     | true => match shr? .u64 x1 8 with
      | none => none
      | some x2 => match idx ([0, 1, 2, 2, 3, 3, 3, 3, 4, 4, 4, 4, 4, 4, 4, 4, 5, 5, 5, 5, 5, 5, 5, 5, 5, 5, 5, 5, 5, 5, 5, 5, 6, 6, 6, 6, 6, 6, 6, 6, 6, 6, 6, 6, 6, 6, 6, 6, 6, 6, 6, 6, 6, 6, 6, 6, 6, 6, 6, 6, 6, 6, 6, 6, 7, 7, 7, 7, 7, 7, 7, 7, 7, 7, 7, 7, 7, 7, 7, 7, 7, 7, 7, 7, 7, 7, 7, 7, 7, 7, 7, 7, 7, 7, 7, 7, 7, 7, 7, 7, 7, 7, 7, 7, 7, 7, 7, 7, 7, 7, 7, 7, 7, 7, 7, 7, 7, 7, 7, 7, 7, 7, 7, 7, 7, 7, 7, 7, 8, 8, 8, 8, 8, 8, 8, 8, 8, 8, 8, 8, 8, 8, 8, 8, 8, 8, 8, 8, 8, 8, 8, 8, 8, 8, 8, 8, 8, 8, 8, 8, 8, 8, 8, 8, 8, 8, 8, 8, 8, 8, 8, 8, 8, 8, 8, 8, 8, 8, 8, 8, 8, 8, 8, 8, 8, 8, 8, 8, 8, 8, 8, 8, 8, 8, 8, 8, 8, 8, 8, 8, 8, 8, 8, 8, 8, 8, 8, 8, 8, 8, 8, 8, 8, 8, 8, 8, 8, 8, 8, 8, 8, 8, 8, 8, 8, 8, 8, 8, 8, 8, 8, 8, 8, 8, 8, 8, 8, 8, 8, 8, 8, 8, 8, 8, 8, 8, 8, 8, 8, 8, 8, 8, 8, 8, 8, 8] : List (Int)) (IntKind.wrap .u8 x2) with
       | none => none
       | some x3 => some ((IntKind.wrap .i64 ((IntKind.wrap .i64 ((IntKind.wrap .i64 (32 + 16)) + 8)) + (IntKind.wrap .i64 x3))), ())
     | false => match idx ([0, 1, 2, 2, 3, 3, 3, 3, 4, 4, 4, 4, 4, 4, 4, 4, 5, 5, 5, 5, 5, 5, 5, 5, 5, 5, 5, 5, 5, 5, 5, 5, 6, 6, 6, 6, 6, 6, 6, 6, 6, 6, 6, 6, 6, 6, 6, 6, 6, 6, 6, 6, 6, 6, 6, 6, 6, 6, 6, 6, 6, 6, 6, 6, 7, 7, 7, 7, 7, 7, 7, 7, 7, 7, 7, 7, 7, 7, 7, 7, 7, 7, 7, 7, 7, 7, 7, 7, 7, 7, 7, 7, 7, 7, 7, 7, 7, 7, 7, 7, 7, 7, 7, 7, 7, 7, 7, 7, 7, 7, 7, 7, 7, 7, 7, 7, 7, 7, 7, 7, 7, 7, 7, 7, 7, 7, 7, 7, 8, 8, 8, 8, 8, 8, 8, 8, 8, 8, 8, 8, 8, 8, 8, 8, 8, 8, 8, 8, 8, 8, 8, 8, 8, 8, 8, 8, 8, 8, 8, 8, 8, 8, 8, 8, 8, 8, 8, 8, 8, 8, 8, 8, 8, 8, 8, 8, 8, 8, 8, 8, 8, 8, 8, 8, 8, 8, 8, 8, 8, 8, 8, 8, 8, 8, 8, 8, 8, 8, 8, 8, 8, 8, 8, 8, 8, 8, 8, 8, 8, 8, 8, 8, 8, 8, 8, 8, 8, 8, 8, 8, 8, 8, 8, 8, 8, 8, 8, 8, 8, 8, 8, 8, 8, 8, 8, 8, 8, 8, 8, 8, 8, 8, 8, 8, 8, 8, 8, 8, 8, 8, 8, 8, 8, 8, 8, 8] : List (Int)) (IntKind.wrap .u8 x1) with
      | none => none
      | some x4 => some ((IntKind.wrap .i64 ((IntKind.wrap .i64 (32 + 16)) + (IntKind.wrap .i64 x4))), ())
   | false => match (ile 256 x0) with
    | true => match shr? .u64 x0 8 with
     | none => none
     | some x5 => match idx ([0, 1, 2, 2, 3, 3, 3, 3, 4, 4, 4, 4, 4, 4, 4, 4, 5, 5, 5, 5, 5, 5, 5, 5, 5, 5, 5, 5, 5, 5, 5, 5, 6, 6, 6, 6, 6, 6, 6, 6, 6, 6, 6, 6, 6, 6, 6, 6, 6, 6, 6, 6, 6, 6, 6, 6, 6, 6, 6, 6, 6, 6, 6, 6, 7, 7, 7, 7, 7, 7, 7, 7, 7, 7, 7, 7, 7, 7, 7, 7, 7, 7, 7, 7, 7, 7, 7, 7, 7, 7, 7, 7, 7, 7, 7, 7, 7, 7, 7, 7, 7, 7, 7, 7, 7, 7, 7, 7, 7, 7, 7, 7, 7, 7, 7, 7, 7, 7, 7, 7, 7, 7, 7, 7, 7, 7, 7, 7, 8, 8, 8, 8, 8, 8, 8, 8, 8, 8, 8, 8, 8, 8, 8, 8, 8, 8, 8, 8, 8, 8, 8, 8, 8, 8, 8, 8, 8, 8, 8, 8, 8, 8, 8, 8, 8, 8, 8, 8, 8, 8, 8, 8, 8, 8, 8, 8, 8, 8, 8, 8, 8, 8, 8, 8, 8, 8, 8, 8, 8, 8, 8, 8, 8, 8, 8, 8, 8, 8, 8, 8, 8, 8, 8, 8, 8, 8, 8, 8, 8, 8, 8, 8, 8, 8, 8, 8, 8, 8, 8, 8, 8, 8, 8, 8, 8, 8, 8, 8, 8, 8, 8, 8, 8, 8, 8, 8, 8, 8, 8, 8, 8, 8, 8, 8, 8, 8, 8, 8, 8, 8, 8, 8, 8, 8, 8, 8] : List (Int)) (IntKind.wrap .u8 x5) with
      | none => none
      | some x6 => some ((IntKind.wrap .i64 ((IntKind.wrap .i64 (32 + 8)) + (IntKind.wrap .i64 x6))), ())
    | false => match idx ([0, 1, 2, 2, 3, 3, 3, 3, 4, 4, 4, 4, 4, 4, 4, 4, 5, 5, 5, 5, 5, 5, 5, 5, 5, 5, 5, 5, 5, 5, 5, 5, 6, 6, 6, 6, 6, 6, 6, 6, 6, 6, 6, 6, 6, 6, 6, 6, 6, 6, 6, 6, 6, 6, 6, 6, 6, 6, 6, 6, 6, 6, 6, 6, 7, 7, 7, 7, 7, 7, 7, 7, 7, 7, 7, 7, 7, 7, 7, 7, 7, 7, 7, 7, 7, 7, 7, 7, 7, 7, 7, 7, 7, 7, 7, 7, 7, 7, 7, 7, 7, 7, 7, 7, 7, 7, 7, 7, 7, 7, 7, 7, 7, 7, 7, 7, 7, 7, 7, 7, 7, 7, 7, 7, 7, 7, 7, 7, 8, 8, 8, 8, 8, 8, 8, 8, 8, 8, 8, 8, 8, 8, 8, 8, 8, 8, 8, 8, 8, 8, 8, 8, 8, 8, 8, 8, 8, 8, 8, 8, 8, 8, 8, 8, 8, 8, 8, 8, 8, 8, 8, 8, 8, 8, 8, 8, 8, 8, 8, 8, 8, 8, 8, 8, 8, 8, 8, 8, 8, 8, 8, 8, 8, 8, 8, 8, 8, 8, 8, 8, 8, 8, 8, 8, 8, 8, 8, 8, 8, 8, 8, 8, 8, 8, 8, 8, 8, 8, 8, 8, 8, 8, 8, 8, 8, 8, 8, 8, 8, 8, 8, 8, 8, 8, 8, 8, 8, 8, 8, 8, 8, 8, 8, 8, 8, 8, 8, 8, 8, 8, 8, 8, 8, 8, 8, 8] : List (Int)) (IntKind.wrap .u8 x0) with
     | none => none
     | some x7 => some ((IntKind.wrap .i64 (32 + (IntKind.wrap .i64 x7))), ())
 | false => match (ile 65536 a0) with
  | true => match shr? .u64 a0 16 with
   | none => none
   | some x8 => match (ile 256 x8) with
    | true => match shr? .u64 x8 8 with
     | none => none
     | some x9 => match idx ([0, 1, 2, 2, 3, 3, 3, 3, 4, 4, 4, 4, 4, 4, 4, 4, 5, 5, 5, 5, 5, 5, 5, 5, 5, 5, 5, 5, 5, 5, 5, 5, 6, 6, 6, 6, 6, 6, 6, 6, 6, 6, 6, 6, 6, 6, 6, 6, 6, 6, 6, 6, 6, 6, 6, 6, 6, 6, 6, 6, 6, 6, 6, 6, 7, 7, 7, 7, 7, 7, 7, 7, 7, 7, 7, 7, 7, 7, 7, 7, 7, 7, 7, 7, 7, 7, 7, 7, 7, 7, 7, 7, 7, 7, 7, 7, 7, 7, 7, 7, 7, 7, 7, 7, 7, 7, 7, 7, 7, 7, 7, 7, 7, 7, 7, 7, 7, 7, 7, 7, 7, 7, 7, 7, 7, 7, 7, 7, 8, 8, 8, 8, 8, 8, 8, 8, 8, 8, 8, 8, 8, 8, 8, 8, 8, 8, 8, 8, 8, 8, 8, 8, 8, 8, 8, 8, 8, 8, 8, 8, 8, 8, 8, 8, 8, 8, 8, 8, 8, 8, 8, 8, 8, 8, 8, 8, 8, 8, 8, 8, 8, 8, 8, 8, 8, 8, 8, 8, 8, 8, 8, 8, 8, 8, 8, 8, 8, 8, 8, 8, 8, 8, 8, 8, 8, 8, 8, 8, 8, 8, 8, 8, 8, 8, 8, 8, 8, 8, 8, 8, 8, 8, 8, 8, 8, 8, 8, 8, 8, 8, 8, 8, 8, 8, 8, 8, 8, 8, 8, 8, 8, 8, 8, 8, 8, 8, 8, 8, 8, 8, 8, 8, 8, 8, 8, 8] : List (Int)) (IntKind.wrap .u8 x9) with
      | none => none
      | some x10 => some ((IntKind.wrap .i64 ((IntKind.wrap .i64 ((IntKind.wrap .i64 (0 + 16)) + 8)) + (IntKind.wrap .i64 x10))), ())
    | false => match idx ([0, 1, 2, 2, 3, 3, 3, 3, 4, 4, 4, 4, 4, 4, 4, 4, 5, 5, 5, 5, 5, 5, 5, 5, 5, 5, 5, 5, 5, 5, 5, 5, 6, 6, 6, 6, 6, 6, 6, 6, 6, 6, 6, 6, 6, 6, 6, 6, 6, 6, 6, 6, 6, 6, 6, 6, 6, 6, 6, 6, 6, 6, 6, 6, 7, 7, 7, 7, 7, 7, 7, 7, 7, 7, 7, 7, 7, 7, 7, 7, 7, 7, 7, 7, 7, 7, 7, 7, 7, 7, 7, 7, 7, 7, 7, 7, 7, 7, 7, 7, 7, 7, 7, 7, 7, 7, 7, 7, 7, 7, 7, 7, 7, 7, 7, 7, 7, 7, 7, 7, 7, 7, 7, 7, 7, 7, 7, 7, 8, 8, 8, 8, 8, 8, 8, 8, 8, 8, 8, 8, 8, 8, 8, 8, 8, 8, 8, 8, 8, 8, 8, 8, 8, 8, 8, 8, 8, 8, 8, 8, 8, 8, 8, 8, 8, 8, 8, 8, 8, 8, 8, 8, 8, 8, 8, 8, 8, 8, 8, 8, 8, 8, 8, 8, 8, 8, 8, 8, 8, 8, 8, 8, 8, 8, 8, 8, 8, 8, 8, 8, 8, 8, 8, 8, 8, 8, 8, 8, 8, 8, 8, 8, 8, 8, 8, 8, 8, 8, 8, 8, 8, 8, 8, 8, 8, 8, 8, 8, 8, 8, 8, 8, 8, 8, 8, 8, 8, 8, 8, 8, 8, 8, 8, 8, 8, 8, 8, 8, 8, 8, 8, 8, 8, 8, 8, 8] : List (Int)) (IntKind.wrap .u8 x8) with
     | none => none
     | some x11 => some ((IntKind.wrap .i64 ((IntKind.wrap .i64 (0 + 16)) + (IntKind.wrap .i64 x11))), ())
  | false => match (ile 256 a0) with
   | true => match shr? .u64 a0 8 with
    | none => none
    | some x12 => match idx ([0, 1, 2, 2, 3, 3, 3, 3, 4, 4, 4, 4, 4, 4, 4, 4, 5, 5, 5, 5, 5, 5, 5, 5, 5, 5, 5, 5, 5, 5, 5, 5, 6, 6, 6, 6, 6, 6, 6, 6, 6, 6, 6, 6, 6, 6, 6, 6, 6, 6, 6, 6, 6, 6, 6, 6, 6, 6, 6, 6, 6, 6, 6, 6, 7, 7, 7, 7, 7, 7, 7, 7, 7, 7, 7, 7, 7, 7, 7, 7, 7, 7, 7, 7, 7, 7, 7, 7, 7, 7, 7, 7, 7, 7, 7, 7, 7, 7, 7, 7, 7, 7, 7, 7, 7, 7, 7, 7, 7, 7, 7, 7, 7, 7, 7, 7, 7, 7, 7, 7, 7, 7, 7, 7, 7, 7, 7, 7, 8, 8, 8, 8, 8, 8, 8, 8, 8, 8, 8, 8, 8, 8, 8, 8, 8, 8, 8, 8, 8, 8, 8, 8, 8, 8, 8, 8, 8, 8, 8, 8, 8, 8, 8, 8, 8, 8, 8, 8, 8, 8, 8, 8, 8, 8, 8, 8, 8, 8, 8, 8, 8, 8, 8, 8, 8, 8, 8, 8, 8, 8, 8, 8, 8, 8, 8, 8, 8, 8, 8, 8, 8, 8, 8, 8, 8, 8, 8, 8, 8, 8, 8, 8, 8, 8, 8, 8, 8, 8, 8, 8, 8, 8, 8, 8, 8, 8, 8, 8, 8, 8, 8, 8, 8, 8, 8, 8, 8, 8, 8, 8, 8, 8, 8, 8, 8, 8, 8, 8, 8, 8, 8, 8, 8, 8, 8, 8] : List (Int)) (IntKind.wrap .u8 x12) with
     | none => none
     | some x13 => some ((IntKind.wrap .i64 ((IntKind.wrap .i64 (0 + 8)) + (IntKind.wrap .i64 x13))), ())
   | false => match idx ([0, 1, 2, 2, 3, 3, 3, 3, 4, 4, 4, 4, 4, 4, 4, 4, 5, 5, 5, 5, 5, 5, 5, 5, 5, 5, 5, 5, 5, 5, 5, 5, 6, 6, 6, 6, 6, 6, 6, 6, 6, 6, 6, 6, 6, 6, 6, 6, 6, 6, 6, 6, 6, 6, 6, 6, 6, 6, 6, 6, 6, 6, 6, 6, 7, 7, 7, 7, 7, 7, 7, 7, 7, 7, 7, 7, 7, 7, 7, 7, 7, 7, 7, 7, 7, 7, 7, 7, 7, 7, 7, 7, 7, 7, 7, 7, 7, 7, 7, 7, 7, 7, 7, 7, 7, 7, 7, 7, 7, 7, 7, 7, 7, 7, 7, 7, 7, 7, 7, 7, 7, 7, 7, 7, 7, 7, 7, 7, 8, 8, 8, 8, 8, 8, 8, 8, 8, 8, 8, 8, 8, 8, 8, 8, 8, 8, 8, 8, 8, 8, 8, 8, 8, 8, 8, 8, 8, 8, 8, 8, 8, 8, 8, 8, 8, 8, 8, 8, 8, 8, 8, 8, 8, 8, 8, 8, 8, 8, 8, 8, 8, 8, 8, 8, 8, 8, 8, 8, 8, 8, 8, 8, 8, 8, 8, 8, 8, 8, 8, 8, 8, 8, 8, 8, 8, 8, 8, 8, 8, 8, 8, 8, 8, 8, 8, 8, 8, 8, 8, 8, 8, 8, 8, 8, 8, 8, 8, 8, 8, 8, 8, 8, 8, 8, 8, 8, 8, 8, 8, 8, 8, 8, 8, 8, 8, 8, 8, 8, 8, 8, 8, 8, 8, 8, 8, 8] : List (Int)) (IntKind.wrap .u8 a0) with
    | none => none
    | some x14 => some ((IntKind.wrap .i64 (0 + (IntKind.wrap .i64 x14))), ())
def len64 (v : (Int × Unit)) : Option ((Int × Unit)) := lock (len64_d v)
theorem len64_eq (v : (Int × Unit)) : len64 v = len64_d v := lock_eq _
def len64_dC : (Int × Unit) → Option ((Int × Unit)) := fun (a0, _) =>
 match (ileR 4294967296 a0) with
 | true => match shrR .u64 a0 32 with
  | none => none
  | some x0 => match (ileR 65536 x0) with
   | true => match shrR .u64 x0 16 with
    | none => none
    | some x1 => match (ileR 256 x1) with
     | true => match shrR .u64 x1 8 with
      | none => none
      | some x2 => match idxR ([0, 1, 2, 2, 3, 3, 3, 3, 4, 4, 4, 4, 4, 4, 4, 4, 5, 5, 5, 5, 5, 5, 5, 5, 5, 5, 5, 5, 5, 5, 5, 5, 6, 6, 6, 6, 6, 6, 6, 6, 6, 6, 6, 6, 6, 6, 6, 6, 6, 6, 6, 6, 6, 6, 6, 6, 6, 6, 6, 6, 6, 6, 6, 6, 7, 7, 7, 7, 7, 7, 7, 7, 7, 7, 7, 7, 7, 7, 7, 7, 7, 7, 7, 7, 7, 7, 7, 7, 7, 7, 7, 7, 7, 7, 7, 7, 7, 7, 7, 7, 7, 7, 7, 7, 7, 7, 7, 7, 7, 7, 7, 7, 7, 7, 7, 7, 7, 7, 7, 7, 7, 7, 7, 7, 7, 7, 7, 7, 8, 8, 8, 8, 8, 8, 8, 8, 8, 8, 8, 8, 8, 8, 8, 8, 8, 8, 8, 8, 8, 8, 8, 8, 8, 8, 8, 8, 8, 8, 8, 8, 8, 8, 8, 8, 8, 8, 8, 8, 8, 8, 8, 8, 8, 8, 8, 8, 8, 8, 8, 8, 8, 8, 8, 8, 8, 8, 8, 8, 8, 8, 8, 8, 8, 8, 8, 8, 8, 8, 8, 8, 8, 8, 8, 8, 8, 8, 8, 8, 8, 8, 8, 8, 8, 8, 8, 8, 8, 8, 8, 8, 8, 8, 8, 8, 8, 8, 8, 8, 8, 8, 8, 8, 8, 8, 8, 8, 8, 8, 8, 8, 8, 8, 8, 8, 8, 8, 8, 8, 8, 8, 8, 8, 8, 8, 8, 8] : List (Int)) (IntKind.wrap .u8 x2) with
       | none => none
       | some x3 => some ((IntKind.wrap .i64 ((IntKind.wrap .i64 ((IntKind.wrap .i64 (32 + 16)) + 8)) + (IntKind.wrap .i64 x3))), ())
     | false => match idxR ([0, 1, 2, 2, 3, 3, 3, 3, 4, 4, 4, 4, 4, 4, 4, 4, 5, 5, 5, 5, 5, 5, 5, 5, 5, 5, 5, 5, 5, 5, 5, 5, 6, 6, 6, 6, 6, 6, 6, 6, 6, 6, 6, 6, 6, 6, 6, 6, 6, 6, 6, 6, 6, 6, 6, 6, 6, 6, 6, 6, 6, 6, 6, 6, 7, 7, 7, 7, 7, 7, 7, 7, 7, 7, 7, 7, 7, 7, 7, 7, 7, 7, 7, 7, 7, 7, 7, 7, 7, 7, 7, 7, 7, 7, 7, 7, 7, 7, 7, 7, 7, 7, 7, 7, 7, 7, 7, 7, 7, 7, 7, 7, 7, 7, 7, 7, 7, 7, 7, 7, 7, 7, 7, 7, 7, 7, 7, 7, 8, 8, 8, 8, 8, 8, 8, 8, 8, 8, 8, 8, 8, 8, 8, 8, 8, 8, 8, 8, 8, 8, 8, 8, 8, 8, 8, 8, 8, 8, 8, 8, 8, 8, 8, 8, 8, 8, 8, 8, 8, 8, 8, 8, 8, 8, 8, 8, 8, 8, 8, 8, 8, 8, 8, 8, 8, 8, 8, 8, 8, 8, 8, 8, 8, 8, 8, 8, 8, 8, 8, 8, 8, 8, 8, 8, 8, 8, 8, 8, 8, 8, 8, 8, 8, 8, 8, 8, 8, 8, 8, 8, 8, 8, 8, 8, 8, 8, 8, 8, 8, 8, 8, 8, 8, 8, 8, 8, 8, 8, 8, 8, 8, 8, 8, 8, 8, 8, 8, 8, 8, 8, 8, 8, 8, 8, 8, 8] : List (Int)) (IntKind.wrap .u8 x1) with
      | none => none
      | some x4 => some ((IntKind.wrap .i64 ((IntKind.wrap .i64 (32 + 16)) + (IntKind.wrap .i64 x4))), ())
   | false => match (ileR 256 x0) with
    | true => match shrR .u64 x0 8 with
     | none => none
     | some x5 => match idxR ([0, 1, 2, 2, 3, 3, 3, 3, 4, 4, 4, 4, 4, 4, 4, 4, 5, 5, 5, 5, 5, 5, 5, 5, 5, 5, 5, 5, 5, 5, 5, 5, 6, 6, 6, 6, 6, 6, 6, 6, 6, 6, 6, 6, 6, 6, 6, 6, 6, 6, 6, 6, 6, 6, 6, 6, 6, 6, 6, 6, 6, 6, 6, 6, 7, 7, 7, 7, 7, 7, 7, 7, 7, 7, 7, 7, 7, 7, 7, 7, 7, 7, 7, 7, 7, 7, 7, 7, 7, 7, 7, 7, 7, 7, 7, 7, 7, 7, 7, 7, 7, 7, 7, 7, 7, 7, 7, 7, 7, 7, 7, 7, 7, 7, 7, 7, 7, 7, 7, 7, 7, 7, 7, 7, 7, 7, 7, 7, 8, 8, 8, 8, 8, 8, 8, 8, 8, 8, 8, 8, 8, 8, 8, 8, 8, 8, 8, 8, 8, 8, 8, 8, 8, 8, 8, 8, 8, 8, 8, 8, 8, 8, 8, 8, 8, 8, 8, 8, 8, 8, 8, 8, 8, 8, 8, 8, 8, 8, 8, 8, 8, 8, 8, 8, 8, 8, 8, 8, 8, 8, 8, 8, 8, 8, 8, 8, 8, 8, 8, 8, 8, 8, 8, 8, 8, 8, 8, 8, 8, 8, 8, 8, 8, 8, 8, 8, 8, 8, 8, 8, 8, 8, 8, 8, 8, 8, 8, 8, 8, 8, 8, 8, 8, 8, 8, 8, 8, 8, 8, 8, 8, 8, 8, 8, 8, 8, 8, 8, 8, 8, 8, 8, 8, 8, 8, 8] : List (Int)) (IntKind.wrap .u8 x5) with
      | none => none
      | some x6 => some ((IntKind.wrap .i64 ((IntKind.wrap .i64 (32 + 8)) + (IntKind.wrap .i64 x6))), ())
    | false => match idxR ([0, 1, 2, 2, 3, 3, 3, 3, 4, 4, 4, 4, 4, 4, 4, 4, 5, 5, 5, 5, 5, 5, 5, 5, 5, 5, 5, 5, 5, 5, 5, 5, 6, 6, 6, 6, 6, 6, 6, 6, 6, 6, 6, 6, 6, 6, 6, 6, 6, 6, 6, 6, 6, 6, 6, 6, 6, 6, 6, 6, 6, 6, 6, 6, 7, 7, 7, 7, 7, 7, 7, 7, 7, 7, 7, 7, 7, 7, 7, 7, 7, 7, 7, 7, 7, 7, 7, 7, 7, 7, 7, 7, 7, 7, 7, 7, 7, 7, 7, 7, 7, 7, 7, 7, 7, 7, 7, 7, 7, 7, 7, 7, 7, 7, 7, 7, 7, 7, 7, 7, 7, 7, 7, 7, 7, 7, 7, 7, 8, 8, 8, 8, 8, 8, 8, 8, 8, 8, 8, 8, 8, 8, 8, 8, 8, 8, 8, 8, 8, 8, 8, 8, 8, 8, 8, 8, 8, 8, 8, 8, 8, 8, 8, 8, 8, 8, 8, 8, 8, 8, 8, 8, 8, 8, 8, 8, 8, 8, 8, 8, 8, 8, 8, 8, 8, 8, 8, 8, 8, 8, 8, 8, 8, 8, 8, 8, 8, 8, 8, 8, 8, 8, 8, 8, 8, 8, 8, 8, 8, 8, 8, 8, 8, 8, 8, 8, 8, 8, 8, 8, 8, 8, 8, 8, 8, 8, 8, 8, 8, 8, 8, 8, 8, 8, 8, 8, 8, 8, 8, 8, 8, 8, 8, 8, 8, 8, 8, 8, 8, 8, 8, 8, 8, 8, 8, 8] : List (Int)) (IntKind.wrap .u8 x0) with
     | none => none
     | some x7 => some ((IntKind.wrap .i64 (32 + (IntKind.wrap .i64 x7))), ())
 | false => match (ileR 65536 a0) with
  | true => match shrR .u64 a0 16 with
   | none => none
   | some x8 => match (ileR 256 x8) with
    | true => match shrR .u64 x8 8 with
     | none => none
     | some x9 => match idxR ([0, 1, 2, 2, 3, 3, 3, 3, 4, 4, 4, 4, 4, 4, 4, 4, 5, 5, 5, 5, 5, 5, 5, 5, 5, 5, 5, 5, 5, 5, 5, 5, 6, 6, 6, 6, 6, 6, 6, 6, 6, 6, 6, 6, 6, 6, 6, 6, 6, 6, 6, 6, 6, 6, 6, 6, 6, 6, 6, 6, 6, 6, 6, 6, 7, 7, 7, 7, 7, 7, 7, 7, 7, 7, 7, 7, 7, 7, 7, 7, 7, 7, 7, 7, 7, 7, 7, 7, 7, 7, 7, 7, 7, 7, 7, 7, 7, 7, 7, 7, 7, 7, 7, 7, 7, 7, 7, 7, 7, 7, 7, 7, 7, 7, 7, 7, 7, 7, 7, 7, 7, 7, 7, 7, 7, 7, 7, 7, 8, 8, 8, 8, 8, 8, 8, 8, 8, 8, 8, 8, 8, 8, 8, 8, 8, 8, 8, 8, 8, 8, 8, 8, 8, 8, 8, 8, 8, 8, 8, 8, 8, 8, 8, 8, 8, 8, 8, 8, 8, 8, 8, 8, 8, 8, 8, 8, 8, 8, 8, 8, 8, 8, 8, 8, 8, 8, 8, 8, 8, 8, 8, 8, 8, 8, 8, 8, 8, 8, 8, 8, 8, 8, 8, 8, 8, 8, 8, 8, 8, 8, 8, 8, 8, 8, 8, 8, 8, 8, 8, 8, 8, 8, 8, 8, 8, 8, 8, 8, 8, 8, 8, 8, 8, 8, 8, 8, 8, 8, 8, 8, 8, 8, 8, 8, 8, 8, 8, 8, 8, 8, 8, 8, 8, 8, 8, 8] : List (Int)) (IntKind.wrap .u8 x9) with
      | none => none
      | some x10 => some ((IntKind.wrap .i64 ((IntKind.wrap .i64 ((IntKind.wrap .i64 (0 + 16)) + 8)) + (IntKind.wrap .i64 x10))), ())
    | false => match idxR ([0, 1, 2, 2, 3, 3, 3, 3, 4, 4, 4, 4, 4, 4, 4, 4, 5, 5, 5, 5, 5, 5, 5, 5, 5, 5, 5, 5, 5, 5, 5, 5, 6, 6, 6, 6, 6, 6, 6, 6, 6, 6, 6, 6, 6, 6, 6, 6, 6, 6, 6, 6, 6, 6, 6, 6, 6, 6, 6, 6, 6, 6, 6, 6, 7, 7, 7, 7, 7, 7, 7, 7, 7, 7, 7, 7, 7, 7, 7, 7, 7, 7, 7, 7, 7, 7, 7, 7, 7, 7, 7, 7, 7, 7, 7, 7, 7, 7, 7, 7, 7, 7, 7, 7, 7, 7, 7, 7, 7, 7, 7, 7, 7, 7, 7, 7, 7, 7, 7, 7, 7, 7, 7, 7, 7, 7, 7, 7, 8, 8, 8, 8, 8, 8, 8, 8, 8, 8, 8, 8, 8, 8, 8, 8, 8, 8, 8, 8, 8, 8, 8, 8, 8, 8, 8, 8, 8, 8, 8, 8, 8, 8, 8, 8, 8, 8, 8, 8, 8, 8, 8, 8, 8, 8, 8, 8, 8, 8, 8, 8, 8, 8, 8, 8, 8, 8, 8, 8, 8, 8, 8, 8, 8, 8, 8, 8, 8, 8, 8, 8, 8, 8, 8, 8, 8, 8, 8, 8, 8, 8, 8, 8, 8, 8, 8, 8, 8, 8, 8, 8, 8, 8, 8, 8, 8, 8, 8, 8, 8, 8, 8, 8, 8, 8, 8, 8, 8, 8, 8, 8, 8, 8, 8, 8, 8, 8, 8, 8, 8, 8, 8, 8, 8, 8, 8, 8] : List (Int)) (IntKind.wrap .u8 x8) with
     | none => none
     | some x11 => some ((IntKind.wrap .i64 ((IntKind.wrap .i64 (0 + 16)) + (IntKind.wrap .i64 x11))), ())
  | false => match (ileR 256 a0) with
   | true => match shrR .u64 a0 8 with
    | none => none
    | some x12 => match idxR ([0, 1, 2, 2, 3, 3, 3, 3, 4, 4, 4, 4, 4, 4, 4, 4, 5, 5, 5, 5, 5, 5, 5, 5, 5, 5, 5, 5, 5, 5, 5, 5, 6, 6, 6, 6, 6, 6, 6, 6, 6, 6, 6, 6, 6, 6, 6, 6, 6, 6, 6, 6, 6, 6, 6, 6, 6, 6, 6, 6, 6, 6, 6, 6, 7, 7, 7, 7, 7, 7, 7, 7, 7, 7, 7, 7, 7, 7, 7, 7, 7, 7, 7, 7, 7, 7, 7, 7, 7, 7, 7, 7, 7, 7, 7, 7, 7, 7, 7, 7, 7, 7, 7, 7, 7, 7, 7, 7, 7, 7, 7, 7, 7, 7, 7, 7, 7, 7, 7, 7, 7, 7, 7, 7, 7, 7, 7, 7, 8, 8, 8, 8, 8, 8, 8, 8, 8, 8, 8, 8, 8, 8, 8, 8, 8, 8, 8, 8, 8, 8, 8, 8, 8, 8, 8, 8, 8, 8, 8, 8, 8, 8, 8, 8, 8, 8, 8, 8, 8, 8, 8, 8, 8, 8, 8, 8, 8, 8, 8, 8, 8, 8, 8, 8, 8, 8, 8, 8, 8, 8, 8, 8, 8, 8, 8, 8, 8, 8, 8, 8, 8, 8, 8, 8, 8, 8, 8, 8, 8, 8, 8, 8, 8, 8, 8, 8, 8, 8, 8, 8, 8, 8, 8, 8, 8, 8, 8, 8, 8, 8, 8, 8, 8, 8, 8, 8, 8, 8, 8, 8, 8, 8, 8, 8, 8, 8, 8, 8, 8, 8, 8, 8, 8, 8, 8, 8] : List (Int)) (IntKind.wrap .u8 x12) with
     | none => none
     | some x13 => some ((IntKind.wrap .i64 ((IntKind.wrap .i64 (0 + 8)) + (IntKind.wrap .i64 x13))), ())
   | false => match idxR ([0, 1, 2, 2, 3, 3, 3, 3, 4, 4, 4, 4, 4, 4, 4, 4, 5, 5, 5, 5, 5, 5, 5, 5, 5, 5, 5, 5, 5, 5, 5, 5, 6, 6, 6, 6, 6, 6, 6, 6, 6, 6, 6, 6, 6, 6, 6, 6, 6, 6, 6, 6, 6, 6, 6, 6, 6, 6, 6, 6, 6, 6, 6, 6, 7, 7, 7, 7, 7, 7, 7, 7, 7, 7, 7, 7, 7, 7, 7, 7, 7, 7, 7, 7, 7, 7, 7, 7, 7, 7, 7, 7, 7, 7, 7, 7, 7, 7, 7, 7, 7, 7, 7, 7, 7, 7, 7, 7, 7, 7, 7, 7, 7, 7, 7, 7, 7, 7, 7, 7, 7, 7, 7, 7, 7, 7, 7, 7, 8, 8, 8, 8, 8, 8, 8, 8, 8, 8, 8, 8, 8, 8, 8, 8, 8, 8, 8, 8, 8, 8, 8, 8, 8, 8, 8, 8, 8, 8, 8, 8, 8, 8, 8, 8, 8, 8, 8, 8, 8, 8, 8, 8, 8, 8, 8, 8, 8, 8, 8, 8, 8, 8, 8, 8, 8, 8, 8, 8, 8, 8, 8, 8, 8, 8, 8, 8, 8, 8, 8, 8, 8, 8, 8, 8, 8, 8, 8, 8, 8, 8, 8, 8, 8, 8, 8, 8, 8, 8, 8, 8, 8, 8, 8, 8, 8, 8, 8, 8, 8, 8, 8, 8, 8, 8, 8, 8, 8, 8, 8, 8, 8, 8, 8, 8, 8, 8, 8, 8, 8, 8, 8, 8, 8, 8, 8, 8] : List (Int)) (IntKind.wrap .u8 a0) with
    | none => none
    | some x14 => some ((IntKind.wrap .i64 (0 + (IntKind.wrap .i64 x14))), ())
theorem len64_d_ceq : len64_d = len64_dC := by
 funext v
 simp only [len64_d, len64_dC, idx_eq, shr_eq, ile_eqR] <;> rfl
def len64C (v : denL (leaves len64_i)) : Option (denL (leaves len64_o)) := len64_dC v
theorem len64_ceq : len64 = len64C := by
 funext v
 rw [len64_eq, len64_d_ceq]; rfl
-- math/bits.Len
abbrev bitsLen_i : Items := [(.tmp 0, .dat (.int .u64))]
abbrev bitsLen_o : Items := [(.tmp 0, .dat (.int .i64))]
abbrev bitsLen_r : List RS := [.one]
def bitsLen_d : (Int × Unit) → Option ((Int × Unit)) := fun (a0, _) =>
 match len64 (a0, ()) with
 | none => none
 | some (y0, _) => some (y0, ())
def bitsLen (v : (Int × Unit)) : Option ((Int × Unit)) := lock (bitsLen_d v)
theorem bitsLen_eq (v : (Int × Unit)) : bitsLen v = bitsLen_d v := lock_eq _
def bitsLen_dC : (Int × Unit) → Option ((Int × Unit)) := fun (a0, _) =>
 match len64C (a0, ()) with
 | none => none
 | some (y0, _) => some (y0, ())
theorem bitsLen_d_ceq : bitsLen_d = bitsLen_dC := by
 funext v
 simp only [bitsLen_d, bitsLen_dC, len64_ceq] <;> rfl
def bitsLenC (v : denL (leaves bitsLen_i)) : Option (denL (leaves bitsLen_o)) := bitsLen_dC v
theorem bitsLen_ceq : bitsLen = bitsLenC := by
 funext v
 rw [bitsLen_eq, bitsLen_d_ceq]; rfl
-- (*slices.xorshift).Next
abbrev xorNext_i : Items := [(.tmp 0, .box 1), (.cell 0 0, .dat (.int .u64))]
abbrev xorNext_o : Items := [(.obj 0, .box 1), (.cell 0 0, .dat (.int .u64)), (.tmp 0, .dat (.int .u64))]
abbrev xorNext_r : List RS := [.one]
def xorNext_d : (Int × Unit) → Option ((Int × Int × Unit)) := fun (a0, _) =>
 match shl? .u64 a0 13 with
 | none => none
 | some x0 => match shr? .u64 (IntKind.wrap .u64 ((BitVec.ofInt (IntKind.bits .u64) a0 ^^^ BitVec.ofInt (IntKind.bits .u64) x0).toNat)) 7 with
  | none => none
  | some x1 => match shl? .u64 (IntKind.wrap .u64 ((BitVec.ofInt (IntKind.bits .u64) (IntKind.wrap .u64 ((BitVec.ofInt (IntKind.bits .u64) a0 ^^^ BitVec.ofInt (IntKind.bits .u64) x0).toNat)) ^^^ BitVec.ofInt (IntKind.bits .u64) x1).toNat)) 17 with
   | none => none
   | some x2 => some ((IntKind.wrap .u64 ((BitVec.ofInt (IntKind.bits .u64) (IntKind.wrap .u64 ((BitVec.ofInt (IntKind.bits .u64) (IntKind.wrap .u64 ((BitVec.ofInt (IntKind.bits .u64) a0 ^^^ BitVec.ofInt (IntKind.bits .u64) x0).toNat)) ^^^ BitVec.ofInt (IntKind.bits .u64) x1).toNat)) ^^^ BitVec.ofInt (IntKind.bits .u64) x2).toNat)), (IntKind.wrap .u64 ((BitVec.ofInt (IntKind.bits .u64) (IntKind.wrap .u64 ((BitVec.ofInt (IntKind.bits .u64) (IntKind.wrap .u64 ((BitVec.ofInt (IntKind.bits .u64) a0 ^^^ BitVec.ofInt (IntKind.bits .u64) x0).toNat)) ^^^ BitVec.ofInt (IntKind.bits .u64) x1).toNat)) ^^^ BitVec.ofInt (IntKind.bits .u64) x2).toNat)), ())
def xorNext (v : (Int × Unit)) : Option ((Int × Int × Unit)) := lock (xorNext_d v)
theorem xorNext_eq (v : (Int × Unit)) : xorNext v = xorNext_d v := lock_eq _
def xorNext_dC : (Int × Unit) → Option ((Int × Int × Unit)) := fun (a0, _) =>
 match shlR .u64 a0 13 with
 | none => none
 | some x0 => match shrR .u64 (IntKind.wrap .u64 ((BitVec.ofInt (IntKind.bits .u64) a0 ^^^ BitVec.ofInt (IntKind.bits .u64) x0).toNat)) 7 with
  | none => none
  | some x1 => match shlR .u64 (IntKind.wrap .u64 ((BitVec.ofInt (IntKind.bits .u64) (IntKind.wrap .u64 ((BitVec.ofInt (IntKind.bits .u64) a0 ^^^ BitVec.ofInt (IntKind.bits .u64) x0).toNat)) ^^^ BitVec.ofInt (IntKind.bits .u64) x1).toNat)) 17 with
   | none => none
   | some x2 => some ((IntKind.wrap .u64 ((BitVec.ofInt (IntKind.bits .u64) (IntKind.wrap .u64 ((BitVec.ofInt (IntKind.bits .u64) (IntKind.wrap .u64 ((BitVec.ofInt (IntKind.bits .u64) a0 ^^^ BitVec.ofInt (IntKind.bits .u64) x0).toNat)) ^^^ BitVec.ofInt (IntKind.bits .u64) x1).toNat)) ^^^ BitVec.ofInt (IntKind.bits .u64) x2).toNat)), (IntKind.wrap .u64 ((BitVec.ofInt (IntKind.bits .u64) (IntKind.wrap .u64 ((BitVec.ofInt (IntKind.bits .u64) (IntKind.wrap .u64 ((BitVec.ofInt (IntKind.bits .u64) a0 ^^^ BitVec.ofInt (IntKind.bits .u64) x0).toNat)) ^^^ BitVec.ofInt (IntKind.bits .u64) x1).toNat)) ^^^ BitVec.ofInt (IntKind.bits .u64) x2).toNat)), ())
theorem xorNext_d_ceq : xorNext_d = xorNext_dC := by
 funext v
 simp only [xorNext_d, xorNext_dC, shl_eq, shr_eq] <;> rfl
def xorNextC (v : denL (leaves xorNext_i)) : Option (denL (leaves xorNext_o)) := xorNext_dC v
theorem xorNext_ceq : xorNext = xorNextC := by
 funext v
 rw [xorNext_eq, xorNext_d_ceq]; rfl
-- slices.nextPowerOfTwo
abbrev nextPow_i : Items := [(.tmp 0, .dat (.int .i64))]
abbrev nextPow_o : Items := [(.tmp 0, .dat (.int .u64))]
abbrev nextPow_r : List RS := [.one]
def nextPow_d : (Int × Unit) → Option ((Int × Unit)) := fun (a0, _) =>
 match bitsLen ((IntKind.wrap .u64 a0), ()) with
 | none => none
 | some (y0, _) => match shl? .u64 1 y0 with
  | none => none
  | some x1 => some (x1, ())
def nextPow (v : (Int × Unit)) : Option ((Int × Unit)) := lock (nextPow_d v)
theorem nextPow_eq (v : (Int × Unit)) : nextPow v = nextPow_d v := lock_eq _
def nextPow_dC : (Int × Unit) → Option ((Int × Unit)) := fun (a0, _) =>
 match bitsLenC ((IntKind.wrap .u64 a0), ()) with
 | none => none
 | some (y0, _) => match shlR .u64 1 y0 with
  | none => none
  | some x1 => some (x1, ())
theorem nextPow_d_ceq : nextPow_d = nextPow_dC := by
 funext v
 simp only [nextPow_d, nextPow_dC, shl_eq, bitsLen_ceq] <;> rfl
def nextPowC (v : denL (leaves nextPow_i)) : Option (denL (leaves nextPow_o)) := nextPow_dC v
theorem nextPow_ceq : nextPow = nextPowC := by
 funext v
 rw [nextPow_eq, nextPow_d_ceq]; rfl
end
end Go.Pev
end
section
/- The models of functions: what they compute, as plain functions of leaves; each twice: locked, and to compute with (C). Printed by a program. -/
namespace Go.Pev
set_option maxRecDepth 100000
noncomputable section
attribute [local irreducible] fitsR fitsIR idxR sublR iltR ileR ieqR quoR remR shlR shrR cloneR iterO many IntKind.wrap dlen dset dget dapp dtake dcut drep dnat dclear imin imax lookupM storeM
-- slices.insertionSortCmpFunc[[]int]
abbrev insL_i : Items := [(.tmp 0, .own 62 (.slice (.int .i64))), (.tmp 1, .dat (.int .i64)), (.tmp 2, .dat (.int .i64)), (.tmp 3, .clo 99 [])]
abbrev insL_o : Items := [(.obj 0, .own 62 (.slice (.int .i64)))]
abbrev insL_r : List RS := []
abbrev insL_i1 : Items := [(.obj 0, .own 62 (.slice (.int .i64))), (.tmp 0, .own' 0), (.tmp 1, .dat (.int .i64)), (.tmp 2, .dat (.int .i64)), (.tmp 3, .clo 99 []), (.tmp 8, .dat (.int .i64)), (.tmp 9, .dat (.int .i64))]
abbrev insL_o1 : Outs := [(.exit 2, [(.obj 0, .own 62 (.slice (.int .i64))), (.tmp 0, .own' 0), (.tmp 1, .dat (.int .i64)), (.tmp 2, .dat (.int .i64)), (.tmp 3, .clo 99 []), (.tmp 8, .dat (.int .i64))])]
def insL_s1 : (List (List Int) × Int × Int × Int × Int × Unit) → Option ((List (List Int) × Int × Int × Int × Int × Unit) ⊕ (List (List Int) × Int × Int × Int × Unit) ⊕ Unit) := fun (a0, a1, a2, a3, a4, _) =>
 match (ilt a1 a4) with
 | true => match idx a0 a4 with
  | none => none
  | some x0 => match idx a0 (IntKind.wrap .i64 (a4 - 1)) with
   | none => none
   | some x1 => match with1 ((dget a0 (dnat a4) ([] : List (Int))), (dget a0 (dnat (IntKind.wrap .i64 (a4 - 1))) ([] : List (Int))), ()) with
    | none => none
    | some (y2, _) => match (ilt y2 0) with
     | true => match idx a0 (IntKind.wrap .i64 (a4 - 1)) with
      | none => none
      | some x3 => match idx a0 a4 with
       | none => none
       | some x4 => match idx a0 a4 with
        | none => none
        | some x5 => match idx (dset a0 (dnat a4) (dget a0 (dnat (IntKind.wrap .i64 (a4 - 1))) ([] : List (Int)))) (IntKind.wrap .i64 (a4 - 1)) with
         | none => none
         | some x6 => some (.inl ((dset (dset a0 (dnat a4) (dget a0 (dnat (IntKind.wrap .i64 (a4 - 1))) ([] : List (Int)))) (dnat (IntKind.wrap .i64 (a4 - 1))) (dget a0 (dnat a4) ([] : List (Int)))), a1, a2, a3, (IntKind.wrap .i64 (a4 - 1)), ()))
     | false => some (.inr (.inl (a0, a1, a2, a3, ())))
 | false => some (.inr (.inl (a0, a1, a2, a3, ())))
abbrev insL_i0 : Items := [(.obj 0, .own 62 (.slice (.int .i64))), (.tmp 0, .own' 0), (.tmp 1, .dat (.int .i64)), (.tmp 2, .dat (.int .i64)), (.tmp 3, .clo 99 []), (.tmp 8, .dat (.int .i64))]
abbrev insL_o0 : Outs := [(.exit 0, [(.obj 0, .own 62 (.slice (.int .i64)))])]
def insL_s0 : (List (List Int) × Int × Int × Int × Unit) → Option ((List (List Int) × Int × Int × Int × Unit) ⊕ (List (List Int) × Unit) ⊕ Unit) := fun (a0, a1, a2, a3, _) =>
 match (ilt a3 a2) with
 | true => match iterL insL_s1 many (a0, a1, a2, a3, a3, ()) with
  | none => none
  | some r => match r with
   | .inl (o0, o1, o2, o3, _) => some (.inl (o0, o1, o2, (IntKind.wrap .i64 (o3 + 1)), ()))
   | .inr _ => none
 | false => some (.inr (.inl (a0, ())))
def insL_d : (List (List Int) × Int × Int × Unit) → Option ((List (List Int) × Unit)) := fun (a0, a1, a2, _) =>
 match iterL insL_s0 many (a0, a1, a2, (IntKind.wrap .i64 (a1 + 1)), ()) with
 | none => none
 | some r => match r with
  | .inl (o0, _) => some (o0, ())
  | .inr _ => none
def insL (v : (List (List Int) × Int × Int × Unit)) : Option ((List (List Int) × Unit)) := lock (insL_d v)
theorem insL_eq (v : (List (List Int) × Int × Int × Unit)) : insL v = insL_d v := lock_eq _
def insL_s1C : (List (List Int) × Int × Int × Int × Int × Unit) → Option ((List (List Int) × Int × Int × Int × Int × Unit) ⊕ (List (List Int) × Int × Int × Int × Unit) ⊕ Unit) := fun (a0, a1, a2, a3, a4, _) =>
 match (iltR a1 a4) with
 | true => match idxR a0 a4 with
  | none => none
  | some x0 => match idxR a0 (IntKind.wrap .i64 (a4 - 1)) with
   | none => none
   | some x1 => match with1C ((dget a0 (dnat a4) ([] : List (Int))), (dget a0 (dnat (IntKind.wrap .i64 (a4 - 1))) ([] : List (Int))), ()) with
    | none => none
    | some (y2, _) => match (iltR y2 0) with
     | true => match idxR a0 (IntKind.wrap .i64 (a4 - 1)) with
      | none => none
      | some x3 => match idxR a0 a4 with
       | none => none
       | some x4 => match idxR a0 a4 with
        | none => none
        | some x5 => match idxR (dset a0 (dnat a4) (dget a0 (dnat (IntKind.wrap .i64 (a4 - 1))) ([] : List (Int)))) (IntKind.wrap .i64 (a4 - 1)) with
         | none => none
         | some x6 => some (.inl ((dset (dset a0 (dnat a4) (dget a0 (dnat (IntKind.wrap .i64 (a4 - 1))) ([] : List (Int)))) (dnat (IntKind.wrap .i64 (a4 - 1))) (dget a0 (dnat a4) ([] : List (Int)))), a1, a2, a3, (IntKind.wrap .i64 (a4 - 1)), ()))
     | false => some (.inr (.inl (a0, a1, a2, a3, ())))
 | false => some (.inr (.inl (a0, a1, a2, a3, ())))
theorem insL_s1_ceq : insL_s1 = insL_s1C := by
 funext v
 simp only [insL_s1, insL_s1C, idx_eq, ilt_eqR, with1_ceq] <;> rfl
def insL_s0C : (List (List Int) × Int × Int × Int × Unit) → Option ((List (List Int) × Int × Int × Int × Unit) ⊕ (List (List Int) × Unit) ⊕ Unit) := fun (a0, a1, a2, a3, _) =>
 match (iltR a3 a2) with
 | true => match iterO insL_s1C many (a0, a1, a2, a3, a3, ()) with
  | none => none
  | some r => match r with
   | .inl (o0, o1, o2, o3, _) => some (.inl (o0, o1, o2, (IntKind.wrap .i64 (o3 + 1)), ()))
   | .inr _ => none
 | false => some (.inr (.inl (a0, ())))
theorem insL_s0_ceq : insL_s0 = insL_s0C := by
 funext v
 simp only [insL_s0, insL_s0C, iterL_eq, ilt_eqR, insL_s1_ceq] <;> rfl
def insL_dC : (List (List Int) × Int × Int × Unit) → Option ((List (List Int) × Unit)) := fun (a0, a1, a2, _) =>
 match iterO insL_s0C many (a0, a1, a2, (IntKind.wrap .i64 (a1 + 1)), ()) with
 | none => none
 | some r => match r with
  | .inl (o0, _) => some (o0, ())
  | .inr _ => none
theorem insL_d_ceq : insL_d = insL_dC := by
 funext v
 simp only [insL_d, insL_dC, iterL_eq, insL_s0_ceq] <;> rfl
def insLC (v : denL (leaves insL_i)) : Option (denL (leaves insL_o)) := insL_dC v
theorem insL_ceq : insL = insLC := by
 funext v
 rw [insL_eq, insL_d_ceq]; rfl
-- slices.siftDownCmpFunc[[]int]
abbrev siftL_i : Items := [(.tmp 0, .own 62 (.slice (.int .i64))), (.tmp 1, .dat (.int .i64)), (.tmp 2, .dat (.int .i64)), (.tmp 3, .dat (.int .i64)), (.tmp 4, .clo 99 [])]
abbrev siftL_o : Items := [(.obj 0, .own 62 (.slice (.int .i64)))]
abbrev siftL_r : List RS := []
abbrev siftL_i0 : Items := [(.obj 0, .own 62 (.slice (.int .i64))), (.tmp 0, .own' 0), (.tmp 2, .dat (.int .i64)), (.tmp 3, .dat (.int .i64)), (.tmp 4, .clo 99 []), (.tmp 10, .dat (.int .i64))]
abbrev siftL_o0 : Outs := [(.exit 0, [(.obj 0, .own 62 (.slice (.int .i64)))]), (.ret, [(.obj 0, .own 62 (.slice (.int .i64)))])]
def siftL_s0 : (List (List Int) × Int × Int × Int × Unit) → Option ((List (List Int) × Int × Int × Int × Unit) ⊕ (List (List Int) × Unit) ⊕ (List (List Int) × Unit) ⊕ Unit) := fun (a0, a1, a2, a3, _) =>
 match (ile a1 (IntKind.wrap .i64 ((IntKind.wrap .i64 (2 * a3)) + 1))) with
 | true => some (.inr (.inl (a0, ())))
 | false => match (ilt (IntKind.wrap .i64 ((IntKind.wrap .i64 ((IntKind.wrap .i64 (2 * a3)) + 1)) + 1)) a1) with
  | true => match idx a0 (IntKind.wrap .i64 (a2 + (IntKind.wrap .i64 ((IntKind.wrap .i64 (2 * a3)) + 1)))) with
   | none => none
   | some x0 => match idx a0 (IntKind.wrap .i64 ((IntKind.wrap .i64 (a2 + (IntKind.wrap .i64 ((IntKind.wrap .i64 (2 * a3)) + 1)))) + 1)) with
    | none => none
    | some x1 => match with1 ((dget a0 (dnat (IntKind.wrap .i64 (a2 + (IntKind.wrap .i64 ((IntKind.wrap .i64 (2 * a3)) + 1))))) ([] : List (Int))), (dget a0 (dnat (IntKind.wrap .i64 ((IntKind.wrap .i64 (a2 + (IntKind.wrap .i64 ((IntKind.wrap .i64 (2 * a3)) + 1)))) + 1))) ([] : List (Int))), ()) with
     | none => none
     | some (y2, _) => match (ilt y2 0) with
      | true => match idx a0 (IntKind.wrap .i64 (a2 + a3)) with
       | none => none
       | some x3 => match idx a0 (IntKind.wrap .i64 (a2 + (IntKind.wrap .i64 ((IntKind.wrap .i64 ((IntKind.wrap .i64 (2 * a3)) + 1)) + 1)))) with
        | none => none
        | some x4 => match with1 ((dget a0 (dnat (IntKind.wrap .i64 (a2 + a3))) ([] : List (Int))), (dget a0 (dnat (IntKind.wrap .i64 (a2 + (IntKind.wrap .i64 ((IntKind.wrap .i64 ((IntKind.wrap .i64 (2 * a3)) + 1)) + 1))))) ([] : List (Int))), ()) with
         | none => none
         | some (y5, _) => match (!(ilt y5 0)) with
          | true => some (.inr (.inr (.inl (a0, ()))))
          | false => match idx a0 (IntKind.wrap .i64 (a2 + (IntKind.wrap .i64 ((IntKind.wrap .i64 ((IntKind.wrap .i64 (2 * a3)) + 1)) + 1)))) with
           | none => none
           | some x6 => match idx a0 (IntKind.wrap .i64 (a2 + a3)) with
            | none => none
            | some x7 => match idx a0 (IntKind.wrap .i64 (a2 + a3)) with
             | none => none
             | some x8 => match idx (dset a0 (dnat (IntKind.wrap .i64 (a2 + a3))) (dget a0 (dnat (IntKind.wrap .i64 (a2 + (IntKind.wrap .i64 ((IntKind.wrap .i64 ((IntKind.wrap .i64 (2 * a3)) + 1)) + 1))))) ([] : List (Int)))) (IntKind.wrap .i64 (a2 + (IntKind.wrap .i64 ((IntKind.wrap .i64 ((IntKind.wrap .i64 (2 * a3)) + 1)) + 1)))) with
              | none => none
              | some x9 => some (.inl ((dset (dset a0 (dnat (IntKind.wrap .i64 (a2 + a3))) (dget a0 (dnat (IntKind.wrap .i64 (a2 + (IntKind.wrap .i64 ((IntKind.wrap .i64 ((IntKind.wrap .i64 (2 * a3)) + 1)) + 1))))) ([] : List (Int)))) (dnat (IntKind.wrap .i64 (a2 + (IntKind.wrap .i64 ((IntKind.wrap .i64 ((IntKind.wrap .i64 (2 * a3)) + 1)) + 1))))) (dget a0 (dnat (IntKind.wrap .i64 (a2 + a3))) ([] : List (Int)))), a1, a2, (IntKind.wrap .i64 ((IntKind.wrap .i64 ((IntKind.wrap .i64 (2 * a3)) + 1)) + 1)), ()))
      | false => match idx a0 (IntKind.wrap .i64 (a2 + a3)) with
       | none => none
       | some x10 => match idx a0 (IntKind.wrap .i64 (a2 + (IntKind.wrap .i64 ((IntKind.wrap .i64 (2 * a3)) + 1)))) with
        | none => none
        | some x11 => match with1 ((dget a0 (dnat (IntKind.wrap .i64 (a2 + a3))) ([] : List (Int))), (dget a0 (dnat (IntKind.wrap .i64 (a2 + (IntKind.wrap .i64 ((IntKind.wrap .i64 (2 * a3)) + 1))))) ([] : List (Int))), ()) with
         | none => none
         | some (y12, _) => match (!(ilt y12 0)) with
          | true => some (.inr (.inr (.inl (a0, ()))))
          | false => match idx a0 (IntKind.wrap .i64 (a2 + (IntKind.wrap .i64 ((IntKind.wrap .i64 (2 * a3)) + 1)))) with
           | none => none
           | some x13 => match idx a0 (IntKind.wrap .i64 (a2 + a3)) with
            | none => none
            | some x14 => match idx a0 (IntKind.wrap .i64 (a2 + a3)) with
             | none => none
             | some x15 => match idx (dset a0 (dnat (IntKind.wrap .i64 (a2 + a3))) (dget a0 (dnat (IntKind.wrap .i64 (a2 + (IntKind.wrap .i64 ((IntKind.wrap .i64 (2 * a3)) + 1))))) ([] : List (Int)))) (IntKind.wrap .i64 (a2 + (IntKind.wrap .i64 ((IntKind.wrap .i64 (2 * a3)) + 1)))) with
              | none => none
              | some x16 => some (.inl ((dset (dset a0 (dnat (IntKind.wrap .i64 (a2 + a3))) (dget a0 (dnat (IntKind.wrap .i64 (a2 + (IntKind.wrap .i64 ((IntKind.wrap .i64 (2 * a3)) + 1))))) ([] : List (Int)))) (dnat (IntKind.wrap .i64 (a2 + (IntKind.wrap .i64 ((IntKind.wrap .i64 (2 * a3)) + 1))))) (dget a0 (dnat (IntKind.wrap .i64 (a2 + a3))) ([] : List (Int)))), a1, a2, (IntKind.wrap .i64 ((IntKind.wrap .i64 (2 * a3)) + 1)), ()))
  | false => match idx a0 (IntKind.wrap .i64 (a2 + a3)) with
   | none => none
   | some x17 => match idx a0 (IntKind.wrap .i64 (a2 + (IntKind.wrap .i64 ((IntKind.wrap .i64 (2 * a3)) + 1)))) with
    | none => none
    | some x18 => match with1 ((dget a0 (dnat (IntKind.wrap .i64 (a2 + a3))) ([] : List (Int))), (dget a0 (dnat (IntKind.wrap .i64 (a2 + (IntKind.wrap .i64 ((IntKind.wrap .i64 (2 * a3)) + 1))))) ([] : List (Int))), ()) with
     | none => none
     | some (y19, _) => match (!(ilt y19 0)) with
      | true => some (.inr (.inr (.inl (a0, ()))))
      | false => match idx a0 (IntKind.wrap .i64 (a2 + (IntKind.wrap .i64 ((IntKind.wrap .i64 (2 * a3)) + 1)))) with
       | none => none
       | some x20 => match idx a0 (IntKind.wrap .i64 (a2 + a3)) with
        | none => none
        | some x21 => match idx a0 (IntKind.wrap .i64 (a2 + a3)) with
         | none => none
         | some x22 => match idx (dset a0 (dnat (IntKind.wrap .i64 (a2 + a3))) (dget a0 (dnat (IntKind.wrap .i64 (a2 + (IntKind.wrap .i64 ((IntKind.wrap .i64 (2 * a3)) + 1))))) ([] : List (Int)))) (IntKind.wrap .i64 (a2 + (IntKind.wrap .i64 ((IntKind.wrap .i64 (2 * a3)) + 1)))) with
          | none => none
          | some x23 => some (.inl ((dset (dset a0 (dnat (IntKind.wrap .i64 (a2 + a3))) (dget a0 (dnat (IntKind.wrap .i64 (a2 + (IntKind.wrap .i64 ((IntKind.wrap .i64 (2 * a3)) + 1))))) ([] : List (Int)))) (dnat (IntKind.wrap .i64 (a2 + (IntKind.wrap .i64 ((IntKind.wrap .i64 (2 * a3)) + 1))))) (dget a0 (dnat (IntKind.wrap .i64 (a2 + a3))) ([] : List (Int)))), a1, a2, (IntKind.wrap .i64 ((IntKind.wrap .i64 (2 * a3)) + 1)), ()))
def siftL_d : (List (List Int) × Int × Int × Int × Unit) → Option ((List (List Int) × Unit)) := fun (a0, a1, a2, a3, _) =>
 match iterL siftL_s0 many (a0, a2, a3, a1, ()) with
 | none => none
 | some r => match r with
  | .inl (o0, _) => some (o0, ())
  | .inr r => match r with
   | .inl (o1, _) => some (o1, ())
   | .inr _ => none
def siftL (v : (List (List Int) × Int × Int × Int × Unit)) : Option ((List (List Int) × Unit)) := lock (siftL_d v)
theorem siftL_eq (v : (List (List Int) × Int × Int × Int × Unit)) : siftL v = siftL_d v := lock_eq _
def siftL_s0C : (List (List Int) × Int × Int × Int × Unit) → Option ((List (List Int) × Int × Int × Int × Unit) ⊕ (List (List Int) × Unit) ⊕ (List (List Int) × Unit) ⊕ Unit) := fun (a0, a1, a2, a3, _) =>
 match (ileR a1 (IntKind.wrap .i64 ((IntKind.wrap .i64 (2 * a3)) + 1))) with
 | true => some (.inr (.inl (a0, ())))
 | false => match (iltR (IntKind.wrap .i64 ((IntKind.wrap .i64 ((IntKind.wrap .i64 (2 * a3)) + 1)) + 1)) a1) with
  | true => match idxR a0 (IntKind.wrap .i64 (a2 + (IntKind.wrap .i64 ((IntKind.wrap .i64 (2 * a3)) + 1)))) with
   | none => none
   | some x0 => match idxR a0 (IntKind.wrap .i64 ((IntKind.wrap .i64 (a2 + (IntKind.wrap .i64 ((IntKind.wrap .i64 (2 * a3)) + 1)))) + 1)) with
    | none => none
    | some x1 => match with1C ((dget a0 (dnat (IntKind.wrap .i64 (a2 + (IntKind.wrap .i64 ((IntKind.wrap .i64 (2 * a3)) + 1))))) ([] : List (Int))), (dget a0 (dnat (IntKind.wrap .i64 ((IntKind.wrap .i64 (a2 + (IntKind.wrap .i64 ((IntKind.wrap .i64 (2 * a3)) + 1)))) + 1))) ([] : List (Int))), ()) with
     | none => none
     | some (y2, _) => match (iltR y2 0) with
      | true => match idxR a0 (IntKind.wrap .i64 (a2 + a3)) with
       | none => none
       | some x3 => match idxR a0 (IntKind.wrap .i64 (a2 + (IntKind.wrap .i64 ((IntKind.wrap .i64 ((IntKind.wrap .i64 (2 * a3)) + 1)) + 1)))) with
        | none => none
        | some x4 => match with1C ((dget a0 (dnat (IntKind.wrap .i64 (a2 + a3))) ([] : List (Int))), (dget a0 (dnat (IntKind.wrap .i64 (a2 + (IntKind.wrap .i64 ((IntKind.wrap .i64 ((IntKind.wrap .i64 (2 * a3)) + 1)) + 1))))) ([] : List (Int))), ()) with
         | none => none
         | some (y5, _) => match (!(iltR y5 0)) with
          | true => some (.inr (.inr (.inl (a0, ()))))
          | false => match idxR a0 (IntKind.wrap .i64 (a2 + (IntKind.wrap .i64 ((IntKind.wrap .i64 ((IntKind.wrap .i64 (2 * a3)) + 1)) + 1)))) with
           | none => none
           | some x6 => match idxR a0 (IntKind.wrap .i64 (a2 + a3)) with
            | none => none
            | some x7 => match idxR a0 (IntKind.wrap .i64 (a2 + a3)) with
             | none => none
             | some x8 => match idxR (dset a0 (dnat (IntKind.wrap .i64 (a2 + a3))) (dget a0 (dnat (IntKind.wrap .i64 (a2 + (IntKind.wrap .i64 ((IntKind.wrap .i64 ((IntKind.wrap .i64 (2 * a3)) + 1)) + 1))))) ([] : List (Int)))) (IntKind.wrap .i64 (a2 + (IntKind.wrap .i64 ((IntKind.wrap .i64 ((IntKind.wrap .i64 (2 * a3)) + 1)) + 1)))) with
              | none => none
              | some x9 => some (.inl ((dset (dset a0 (dnat (IntKind.wrap .i64 (a2 + a3))) (dget a0 (dnat (IntKind.wrap .i64 (a2 + (IntKind.wrap .i64 ((IntKind.wrap .i64 ((IntKind.wrap .i64 (2 * a3)) + 1)) + 1))))) ([] : List (Int)))) (dnat (IntKind.wrap .i64 (a2 + (IntKind.wrap .i64 ((IntKind.wrap .i64 ((IntKind.wrap .i64 (2 * a3)) + 1)) + 1))))) (dget a0 (dnat (IntKind.wrap .i64 (a2 + a3))) ([] : List (Int)))), a1, a2, (IntKind.wrap .i64 ((IntKind.wrap .i64 ((IntKind.wrap .i64 (2 * a3)) + 1)) + 1)), ()))
      | false => match idxR a0 (IntKind.wrap .i64 (a2 + a3)) with
       | none => none
       | some x10 => match idxR a0 (IntKind.wrap .i64 (a2 + (IntKind.wrap .i64 ((IntKind.wrap .i64 (2 * a3)) + 1)))) with
        | none => none
        | some x11 => match with1C ((dget a0 (dnat (IntKind.wrap .i64 (a2 + a3))) ([] : List (Int))), (dget a0 (dnat (IntKind.wrap .i64 (a2 + (IntKind.wrap .i64 ((IntKind.wrap .i64 (2 * a3)) + 1))))) ([] : List (Int))), ()) with
         | none => none
         | some (y12, _) => match (!(iltR y12 0)) with
          | true => some (.inr (.inr (.inl (a0, ()))))
          | false => match idxR a0 (IntKind.wrap .i64 (a2 + (IntKind.wrap .i64 ((IntKind.wrap .i64 (2 * a3)) + 1)))) with
           | none => none
           | some x13 => match idxR a0 (IntKind.wrap .i64 (a2 + a3)) with
            | none => none
            | some x14 => match idxR a0 (IntKind.wrap .i64 (a2 + a3)) with
             | none => none
             | some x15 => match idxR (dset a0 (dnat (IntKind.wrap .i64 (a2 + a3))) (dget a0 (dnat (IntKind.wrap .i64 (a2 + (IntKind.wrap .i64 ((IntKind.wrap .i64 (2 * a3)) + 1))))) ([] : List (Int)))) (IntKind.wrap .i64 (a2 + (IntKind.wrap .i64 ((IntKind.wrap .i64 (2 * a3)) + 1)))) with
              | none => none
              | some x16 => some (.inl ((dset (dset a0 (dnat (IntKind.wrap .i64 (a2 + a3))) (dget a0 (dnat (IntKind.wrap .i64 (a2 + (IntKind.wrap .i64 ((IntKind.wrap .i64 (2 * a3)) + 1))))) ([] : List (Int)))) (dnat (IntKind.wrap .i64 (a2 + (IntKind.wrap .i64 ((IntKind.wrap .i64 (2 * a3)) + 1))))) (dget a0 (dnat (IntKind.wrap .i64 (a2 + a3))) ([] : List (Int)))), a1, a2, (IntKind.wrap .i64 ((IntKind.wrap .i64 (2 * a3)) + 1)), ()))
  | false => match idxR a0 (IntKind.wrap .i64 (a2 + a3)) with
   | none => none
   | some x17 => match idxR a0 (IntKind.wrap .i64 (a2 + (IntKind.wrap .i64 ((IntKind.wrap .i64 (2 * a3)) + 1)))) with
    | none => none
    | some x18 => match with1C ((dget a0 (dnat (IntKind.wrap .i64 (a2 + a3))) ([] : List (Int))), (dget a0 (dnat (IntKind.wrap .i64 (a2 + (IntKind.wrap .i64 ((IntKind.wrap .i64 (2 * a3)) + 1))))) ([] : List (Int))), ()) with
     | none => none
     | some (y19, _) => match (!(iltR y19 0)) with
      | true => some (.inr (.inr (.inl (a0, ()))))
      | false => match idxR a0 (IntKind.wrap .i64 (a2 + (IntKind.wrap .i64 ((IntKind.wrap .i64 (2 * a3)) + 1)))) with
       | none => none
       | some x20 => match idxR a0 (IntKind.wrap .i64 (a2 + a3)) with
        | none => none
        | some x21 => match idxR a0 (IntKind.wrap .i64 (a2 + a3)) with
         | none => none
         | some x22 => match idxR (dset a0 (dnat (IntKind.wrap .i64 (a2 + a3))) (dget a0 (dnat (IntKind.wrap .i64 (a2 + (IntKind.wrap .i64 ((IntKind.wrap .i64 (2 * a3)) + 1))))) ([] : List (Int)))) (IntKind.wrap .i64 (a2 + (IntKind.wrap .i64 ((IntKind.wrap .i64 (2 * a3)) + 1)))) with
          | none => none
          | some x23 => some (.inl ((dset (dset a0 (dnat (IntKind.wrap .i64 (a2 + a3))) (dget a0 (dnat (IntKind.wrap .i64 (a2 + (IntKind.wrap .i64 ((IntKind.wrap .i64 (2 * a3)) + 1))))) ([] : List (Int)))) (dnat (IntKind.wrap .i64 (a2 + (IntKind.wrap .i64 ((IntKind.wrap .i64 (2 * a3)) + 1))))) (dget a0 (dnat (IntKind.wrap .i64 (a2 + a3))) ([] : List (Int)))), a1, a2, (IntKind.wrap .i64 ((IntKind.wrap .i64 (2 * a3)) + 1)), ()))
theorem siftL_s0_ceq : siftL_s0 = siftL_s0C := by
 funext v
 simp only [siftL_s0, siftL_s0C, idx_eq, ilt_eqR, ile_eqR, with1_ceq] <;> rfl
def siftL_dC : (List (List Int) × Int × Int × Int × Unit) → Option ((List (List Int) × Unit)) := fun (a0, a1, a2, a3, _) =>
 match iterO siftL_s0C many (a0, a2, a3, a1, ()) with
 | none => none
 | some r => match r with
  | .inl (o0, _) => some (o0, ())
  | .inr r => match r with
   | .inl (o1, _) => some (o1, ())
   | .inr _ => none
theorem siftL_d_ceq : siftL_d = siftL_dC := by
 funext v
 simp only [siftL_d, siftL_dC, iterL_eq, siftL_s0_ceq] <;> rfl
def siftLC (v : denL (leaves siftL_i)) : Option (denL (leaves siftL_o)) := siftL_dC v
theorem siftL_ceq : siftL = siftLC := by
 funext v
 rw [siftL_eq, siftL_d_ceq]; rfl
-- slices.heapSortCmpFunc[[]int]
abbrev heapL_i : Items := [(.tmp 0, .own 62 (.slice (.int .i64))), (.tmp 1, .dat (.int .i64)), (.tmp 2, .dat (.int .i64)), (.tmp 3, .clo 99 [])]
abbrev heapL_o : Items := [(.obj 0, .own 62 (.slice (.int .i64)))]
abbrev heapL_r : List RS := []
abbrev heapL_i1 : Items := [(.obj 0, .own 62 (.slice (.int .i64))), (.tmp 0, .own' 0), (.tmp 3, .clo 99 []), (.tmp 8, .dat (.int .i64)), (.tmp 9, .dat (.int .i64)), (.tmp 12, .dat (.int .i64))]
abbrev heapL_o1 : Outs := [(.exit 2, [(.obj 0, .own 62 (.slice (.int .i64)))])]
def heapL_s1 : (List (List Int) × Int × Int × Int × Unit) → Option ((List (List Int) × Int × Int × Int × Unit) ⊕ (List (List Int) × Unit) ⊕ Unit) := fun (a0, a1, a2, a3, _) =>
 match (ile 0 a3) with
 | true => match idx a0 (IntKind.wrap .i64 (a1 + a3)) with
  | none => none
  | some x0 => match idx a0 a1 with
   | none => none
   | some x1 => match idx a0 a1 with
    | none => none
    | some x2 => match idx (dset a0 (dnat a1) (dget a0 (dnat (IntKind.wrap .i64 (a1 + a3))) ([] : List (Int)))) (IntKind.wrap .i64 (a1 + a3)) with
     | none => none
     | some x3 => match siftL ((dset (dset a0 (dnat a1) (dget a0 (dnat (IntKind.wrap .i64 (a1 + a3))) ([] : List (Int)))) (dnat (IntKind.wrap .i64 (a1 + a3))) (dget a0 (dnat a1) ([] : List (Int)))), a2, a3, a1, ()) with
      | none => none
      | some (y4, _) => some (.inl (y4, a1, a2, (IntKind.wrap .i64 (a3 - 1)), ()))
 | false => some (.inr (.inl (a0, ())))
abbrev heapL_i0 : Items := [(.obj 0, .own 62 (.slice (.int .i64))), (.tmp 0, .own' 0), (.tmp 3, .clo 99 []), (.tmp 8, .dat (.int .i64)), (.tmp 9, .dat (.int .i64)), (.tmp 10, .dat (.int .i64)), (.tmp 11, .dat (.int .i64))]
abbrev heapL_o0 : Outs := [(.exit 0, [(.obj 0, .own 62 (.slice (.int .i64))), (.tmp 0, .own' 0), (.tmp 3, .clo 99 []), (.tmp 8, .dat (.int .i64)), (.tmp 9, .dat (.int .i64)), (.tmp 10, .dat (.int .i64))])]
def heapL_s0 : (List (List Int) × Int × Int × Int × Int × Unit) → Option ((List (List Int) × Int × Int × Int × Int × Unit) ⊕ (List (List Int) × Int × Int × Int × Unit) ⊕ Unit) := fun (a0, a1, a2, a3, a4, _) =>
 match (ile 0 a4) with
 | true => match siftL (a0, a4, a3, a1, ()) with
  | none => none
  | some (y0, _) => some (.inl (y0, a1, a2, a3, (IntKind.wrap .i64 (a4 - 1)), ()))
 | false => some (.inr (.inl (a0, a1, a2, a3, ())))
def heapL_d : (List (List Int) × Int × Int × Unit) → Option ((List (List Int) × Unit)) := fun (a0, a1, a2, _) =>
 match quo? .i64 (IntKind.wrap .i64 ((IntKind.wrap .i64 (a2 - a1)) - 1)) 2 with
 | none => none
 | some x0 => match iterL heapL_s0 many (a0, a1, 0, (IntKind.wrap .i64 (a2 - a1)), x0, ()) with
  | none => none
  | some r => match r with
   | .inl (o1, o2, o3, o4, _) => match iterL heapL_s1 many (o1, o2, o3, (IntKind.wrap .i64 (o4 - 1)), ()) with
    | none => none
    | some r => match r with
     | .inl (o5, _) => some (o5, ())
     | .inr _ => none
   | .inr _ => none
def heapL (v : (List (List Int) × Int × Int × Unit)) : Option ((List (List Int) × Unit)) := lock (heapL_d v)
theorem heapL_eq (v : (List (List Int) × Int × Int × Unit)) : heapL v = heapL_d v := lock_eq _
def heapL_s1C : (List (List Int) × Int × Int × Int × Unit) → Option ((List (List Int) × Int × Int × Int × Unit) ⊕ (List (List Int) × Unit) ⊕ Unit) := fun (a0, a1, a2, a3, _) =>
 match (ileR 0 a3) with
 | true => match idxR a0 (IntKind.wrap .i64 (a1 + a3)) with
  | none => none
  | some x0 => match idxR a0 a1 with
   | none => none
   | some x1 => match idxR a0 a1 with
    | none => none
    | some x2 => match idxR (dset a0 (dnat a1) (dget a0 (dnat (IntKind.wrap .i64 (a1 + a3))) ([] : List (Int)))) (IntKind.wrap .i64 (a1 + a3)) with
     | none => none
     | some x3 => match siftLC ((dset (dset a0 (dnat a1) (dget a0 (dnat (IntKind.wrap .i64 (a1 + a3))) ([] : List (Int)))) (dnat (IntKind.wrap .i64 (a1 + a3))) (dget a0 (dnat a1) ([] : List (Int)))), a2, a3, a1, ()) with
      | none => none
      | some (y4, _) => some (.inl (y4, a1, a2, (IntKind.wrap .i64 (a3 - 1)), ()))
 | false => some (.inr (.inl (a0, ())))
theorem heapL_s1_ceq : heapL_s1 = heapL_s1C := by
 funext v
 simp only [heapL_s1, heapL_s1C, idx_eq, ile_eqR, siftL_ceq] <;> rfl
def heapL_s0C : (List (List Int) × Int × Int × Int × Int × Unit) → Option ((List (List Int) × Int × Int × Int × Int × Unit) ⊕ (List (List Int) × Int × Int × Int × Unit) ⊕ Unit) := fun (a0, a1, a2, a3, a4, _) =>
 match (ileR 0 a4) with
 | true => match siftLC (a0, a4, a3, a1, ()) with
  | none => none
  | some (y0, _) => some (.inl (y0, a1, a2, a3, (IntKind.wrap .i64 (a4 - 1)), ()))
 | false => some (.inr (.inl (a0, a1, a2, a3, ())))
theorem heapL_s0_ceq : heapL_s0 = heapL_s0C := by
 funext v
 simp only [heapL_s0, heapL_s0C, ile_eqR, siftL_ceq] <;> rfl
def heapL_dC : (List (List Int) × Int × Int × Unit) → Option ((List (List Int) × Unit)) := fun (a0, a1, a2, _) =>
 match quoR .i64 (IntKind.wrap .i64 ((IntKind.wrap .i64 (a2 - a1)) - 1)) 2 with
 | none => none
 | some x0 => match iterO heapL_s0C many (a0, a1, 0, (IntKind.wrap .i64 (a2 - a1)), x0, ()) with
  | none => none
  | some r => match r with
   | .inl (o1, o2, o3, o4, _) => match iterO heapL_s1C many (o1, o2, o3, (IntKind.wrap .i64 (o4 - 1)), ()) with
    | none => none
    | some r => match r with
     | .inl (o5, _) => some (o5, ())
     | .inr _ => none
   | .inr _ => none
theorem heapL_d_ceq : heapL_d = heapL_dC := by
 funext v
 simp only [heapL_d, heapL_dC, quo_eq, iterL_eq, heapL_s1_ceq, heapL_s0_ceq] <;> rfl
def heapLC (v : denL (leaves heapL_i)) : Option (denL (leaves heapL_o)) := heapL_dC v
theorem heapL_ceq : heapL = heapLC := by
 funext v
 rw [heapL_eq, heapL_d_ceq]; rfl
-- slices.breakPatternsCmpFunc[[]int]
abbrev breakL_i : Items := [(.tmp 0, .own 62 (.slice (.int .i64))), (.tmp 1, .dat (.int .i64)), (.tmp 2, .dat (.int .i64)), (.tmp 3, .clo 99 [])]
abbrev breakL_o : Items := [(.obj 0, .own 62 (.slice (.int .i64)))]
abbrev breakL_r : List RS := []
abbrev breakL_i0 : Items := [(.obj 0, .own 62 (.slice (.int .i64))), (.tmp 0, .own' 0), (.tmp 1, .dat (.int .i64)), (.tmp 8, .dat (.int .i64)), (.tmp 9, .box 1), (.cell 1 0, .dat (.int .u64)), (.tmp 10, .dat (.int .u64)), (.tmp 11, .dat (.int .i64))]
abbrev breakL_o0 : Outs := [(.exit 0, [(.obj 0, .own 62 (.slice (.int .i64)))])]
def breakL_s0 : (List (List Int) × Int × Int × Int × Int × Int × Unit) → Option ((List (List Int) × Int × Int × Int × Int × Int × Unit) ⊕ (List (List Int) × Unit) ⊕ Unit) := fun (a0, a1, a2, a3, a4, a5, _) =>
 match quo? .i64 a2 4 with
 | none => none
 | some x0 => match (ile a5 (IntKind.wrap .i64 ((IntKind.wrap .i64 (a1 + (IntKind.wrap .i64 (x0 * 2)))) + 1))) with
  | true => match xorNext (a3, ()) with
   | none => none
   | some (y1, y2, _) => match (ile a2 (IntKind.wrap .i64 (IntKind.wrap .u64 ((BitVec.ofInt (IntKind.bits .u64) y2 &&& BitVec.ofInt (IntKind.bits .u64) (IntKind.wrap .u64 (a4 - 1))).toNat)))) with
    | true => match idx a0 (IntKind.wrap .i64 (a1 + (IntKind.wrap .i64 ((IntKind.wrap .i64 (IntKind.wrap .u64 ((BitVec.ofInt (IntKind.bits .u64) y2 &&& BitVec.ofInt (IntKind.bits .u64) (IntKind.wrap .u64 (a4 - 1))).toNat))) - a2)))) with
     | none => none
     | some x3 => match idx a0 a5 with
      | none => none
      | some x4 => match idx a0 a5 with
       | none => none
       | some x5 => match idx (dset a0 (dnat a5) (dget a0 (dnat (IntKind.wrap .i64 (a1 + (IntKind.wrap .i64 ((IntKind.wrap .i64 (IntKind.wrap .u64 ((BitVec.ofInt (IntKind.bits .u64) y2 &&& BitVec.ofInt (IntKind.bits .u64) (IntKind.wrap .u64 (a4 - 1))).toNat))) - a2))))) ([] : List (Int)))) (IntKind.wrap .i64 (a1 + (IntKind.wrap .i64 ((IntKind.wrap .i64 (IntKind.wrap .u64 ((BitVec.ofInt (IntKind.bits .u64) y2 &&& BitVec.ofInt (IntKind.bits .u64) (IntKind.wrap .u64 (a4 - 1))).toNat))) - a2)))) with
        | none => none
        | some x6 => some (.inl ((dset (dset a0 (dnat a5) (dget a0 (dnat (IntKind.wrap .i64 (a1 + (IntKind.wrap .i64 ((IntKind.wrap .i64 (IntKind.wrap .u64 ((BitVec.ofInt (IntKind.bits .u64) y2 &&& BitVec.ofInt (IntKind.bits .u64) (IntKind.wrap .u64 (a4 - 1))).toNat))) - a2))))) ([] : List (Int)))) (dnat (IntKind.wrap .i64 (a1 + (IntKind.wrap .i64 ((IntKind.wrap .i64 (IntKind.wrap .u64 ((BitVec.ofInt (IntKind.bits .u64) y2 &&& BitVec.ofInt (IntKind.bits .u64) (IntKind.wrap .u64 (a4 - 1))).toNat))) - a2))))) (dget a0 (dnat a5) ([] : List (Int)))), a1, a2, y1, a4, (IntKind.wrap .i64 (a5 + 1)), ()))
    | false => match idx a0 (IntKind.wrap .i64 (a1 + (IntKind.wrap .i64 (IntKind.wrap .u64 ((BitVec.ofInt (IntKind.bits .u64) y2 &&& BitVec.ofInt (IntKind.bits .u64) (IntKind.wrap .u64 (a4 - 1))).toNat))))) with
     | none => none
     | some x7 => match idx a0 a5 with
      | none => none
      | some x8 => match idx a0 a5 with
       | none => none
       | some x9 => match idx (dset a0 (dnat a5) (dget a0 (dnat (IntKind.wrap .i64 (a1 + (IntKind.wrap .i64 (IntKind.wrap .u64 ((BitVec.ofInt (IntKind.bits .u64) y2 &&& BitVec.ofInt (IntKind.bits .u64) (IntKind.wrap .u64 (a4 - 1))).toNat)))))) ([] : List (Int)))) (IntKind.wrap .i64 (a1 + (IntKind.wrap .i64 (IntKind.wrap .u64 ((BitVec.ofInt (IntKind.bits .u64) y2 &&& BitVec.ofInt (IntKind.bits .u64) (IntKind.wrap .u64 (a4 - 1))).toNat))))) with
        | none => none
        | some x10 => some (.inl ((dset (dset a0 (dnat a5) (dget a0 (dnat (IntKind.wrap .i64 (a1 + (IntKind.wrap .i64 (IntKind.wrap .u64 ((BitVec.ofInt (IntKind.bits .u64) y2 &&& BitVec.ofInt (IntKind.bits .u64) (IntKind.wrap .u64 (a4 - 1))).toNat)))))) ([] : List (Int)))) (dnat (IntKind.wrap .i64 (a1 + (IntKind.wrap .i64 (IntKind.wrap .u64 ((BitVec.ofInt (IntKind.bits .u64) y2 &&& BitVec.ofInt (IntKind.bits .u64) (IntKind.wrap .u64 (a4 - 1))).toNat)))))) (dget a0 (dnat a5) ([] : List (Int)))), a1, a2, y1, a4, (IntKind.wrap .i64 (a5 + 1)), ()))
  | false => some (.inr (.inl (a0, ())))
def breakL_d : (List (List Int) × Int × Int × Unit) → Option ((List (List Int) × Unit)) := fun (a0, a1, a2, _) =>
 match (ile 8 (IntKind.wrap .i64 (a2 - a1))) with
 | true => match nextPow ((IntKind.wrap .i64 (a2 - a1)), ()) with
  | none => none
  | some (y0, _) => match quo? .i64 (IntKind.wrap .i64 (a2 - a1)) 4 with
   | none => none
   | some x1 => match iterL breakL_s0 many (a0, a1, (IntKind.wrap .i64 (a2 - a1)), (IntKind.wrap .u64 (IntKind.wrap .i64 (a2 - a1))), y0, (IntKind.wrap .i64 ((IntKind.wrap .i64 (a1 + (IntKind.wrap .i64 (x1 * 2)))) - 1)), ()) with
    | none => none
    | some r => match r with
     | .inl (o2, _) => some (o2, ())
     | .inr _ => none
 | false => some (a0, ())
def breakL (v : (List (List Int) × Int × Int × Unit)) : Option ((List (List Int) × Unit)) := lock (breakL_d v)
theorem breakL_eq (v : (List (List Int) × Int × Int × Unit)) : breakL v = breakL_d v := lock_eq _
def breakL_s0C : (List (List Int) × Int × Int × Int × Int × Int × Unit) → Option ((List (List Int) × Int × Int × Int × Int × Int × Unit) ⊕ (List (List Int) × Unit) ⊕ Unit) := fun (a0, a1, a2, a3, a4, a5, _) =>
 match quoR .i64 a2 4 with
 | none => none
 | some x0 => match (ileR a5 (IntKind.wrap .i64 ((IntKind.wrap .i64 (a1 + (IntKind.wrap .i64 (x0 * 2)))) + 1))) with
  | true => match xorNextC (a3, ()) with
   | none => none
   | some (y1, y2, _) => match (ileR a2 (IntKind.wrap .i64 (IntKind.wrap .u64 ((BitVec.ofInt (IntKind.bits .u64) y2 &&& BitVec.ofInt (IntKind.bits .u64) (IntKind.wrap .u64 (a4 - 1))).toNat)))) with
    | true => match idxR a0 (IntKind.wrap .i64 (a1 + (IntKind.wrap .i64 ((IntKind.wrap .i64 (IntKind.wrap .u64 ((BitVec.ofInt (IntKind.bits .u64) y2 &&& BitVec.ofInt (IntKind.bits .u64) (IntKind.wrap .u64 (a4 - 1))).toNat))) - a2)))) with
     | none => none
     | some x3 => match idxR a0 a5 with
      | none => none
      | some x4 => match idxR a0 a5 with
       | none => none
       | some x5 => match idxR (dset a0 (dnat a5) (dget a0 (dnat (IntKind.wrap .i64 (a1 + (IntKind.wrap .i64 ((IntKind.wrap .i64 (IntKind.wrap .u64 ((BitVec.ofInt (IntKind.bits .u64) y2 &&& BitVec.ofInt (IntKind.bits .u64) (IntKind.wrap .u64 (a4 - 1))).toNat))) - a2))))) ([] : List (Int)))) (IntKind.wrap .i64 (a1 + (IntKind.wrap .i64 ((IntKind.wrap .i64 (IntKind.wrap .u64 ((BitVec.ofInt (IntKind.bits .u64) y2 &&& BitVec.ofInt (IntKind.bits .u64) (IntKind.wrap .u64 (a4 - 1))).toNat))) - a2)))) with
        | none => none
        | some x6 => some (.inl ((dset (dset a0 (dnat a5) (dget a0 (dnat (IntKind.wrap .i64 (a1 + (IntKind.wrap .i64 ((IntKind.wrap .i64 (IntKind.wrap .u64 ((BitVec.ofInt (IntKind.bits .u64) y2 &&& BitVec.ofInt (IntKind.bits .u64) (IntKind.wrap .u64 (a4 - 1))).toNat))) - a2))))) ([] : List (Int)))) (dnat (IntKind.wrap .i64 (a1 + (IntKind.wrap .i64 ((IntKind.wrap .i64 (IntKind.wrap .u64 ((BitVec.ofInt (IntKind.bits .u64) y2 &&& BitVec.ofInt (IntKind.bits .u64) (IntKind.wrap .u64 (a4 - 1))).toNat))) - a2))))) (dget a0 (dnat a5) ([] : List (Int)))), a1, a2, y1, a4, (IntKind.wrap .i64 (a5 + 1)), ()))
    | false => match idxR a0 (IntKind.wrap .i64 (a1 + (IntKind.wrap .i64 (IntKind.wrap .u64 ((BitVec.ofInt (IntKind.bits .u64) y2 &&& BitVec.ofInt (IntKind.bits .u64) (IntKind.wrap .u64 (a4 - 1))).toNat))))) with
     | none => none
     | some x7 => match idxR a0 a5 with
      | none => none
      | some x8 => match idxR a0 a5 with
       | none => none
       | some x9 => match idxR (dset a0 (dnat a5) (dget a0 (dnat (IntKind.wrap .i64 (a1 + (IntKind.wrap .i64 (IntKind.wrap .u64 ((BitVec.ofInt (IntKind.bits .u64) y2 &&& BitVec.ofInt (IntKind.bits .u64) (IntKind.wrap .u64 (a4 - 1))).toNat)))))) ([] : List (Int)))) (IntKind.wrap .i64 (a1 + (IntKind.wrap .i64 (IntKind.wrap .u64 ((BitVec.ofInt (IntKind.bits .u64) y2 &&& BitVec.ofInt (IntKind.bits .u64) (IntKind.wrap .u64 (a4 - 1))).toNat))))) with
        | none => none
        | some x10 => some (.inl ((dset (dset a0 (dnat a5) (dget a0 (dnat (IntKind.wrap .i64 (a1 + (IntKind.wrap .i64 (IntKind.wrap .u64 ((BitVec.ofInt (IntKind.bits .u64) y2 &&& BitVec.ofInt (IntKind.bits .u64) (IntKind.wrap .u64 (a4 - 1))).toNat)))))) ([] : List (Int)))) (dnat (IntKind.wrap .i64 (a1 + (IntKind.wrap .i64 (IntKind.wrap .u64 ((BitVec.ofInt (IntKind.bits .u64) y2 &&& BitVec.ofInt (IntKind.bits .u64) (IntKind.wrap .u64 (a4 - 1))).toNat)))))) (dget a0 (dnat a5) ([] : List (Int)))), a1, a2, y1, a4, (IntKind.wrap .i64 (a5 + 1)), ()))
  | false => some (.inr (.inl (a0, ())))
theorem breakL_s0_ceq : breakL_s0 = breakL_s0C := by
 funext v
 simp only [breakL_s0, breakL_s0C, idx_eq, quo_eq, ile_eqR, xorNext_ceq] <;> rfl
def breakL_dC : (List (List Int) × Int × Int × Unit) → Option ((List (List Int) × Unit)) := fun (a0, a1, a2, _) =>
 match (ileR 8 (IntKind.wrap .i64 (a2 - a1))) with
 | true => match nextPowC ((IntKind.wrap .i64 (a2 - a1)), ()) with
  | none => none
  | some (y0, _) => match quoR .i64 (IntKind.wrap .i64 (a2 - a1)) 4 with
   | none => none
   | some x1 => match iterO breakL_s0C many (a0, a1, (IntKind.wrap .i64 (a2 - a1)), (IntKind.wrap .u64 (IntKind.wrap .i64 (a2 - a1))), y0, (IntKind.wrap .i64 ((IntKind.wrap .i64 (a1 + (IntKind.wrap .i64 (x1 * 2)))) - 1)), ()) with
    | none => none
    | some r => match r with
     | .inl (o2, _) => some (o2, ())
     | .inr _ => none
 | false => some (a0, ())
theorem breakL_d_ceq : breakL_d = breakL_dC := by
 funext v
 simp only [breakL_d, breakL_dC, quo_eq, iterL_eq, ile_eqR, nextPow_ceq, breakL_s0_ceq] <;> rfl
def breakLC (v : denL (leaves breakL_i)) : Option (denL (leaves breakL_o)) := breakL_dC v
theorem breakL_ceq : breakL = breakLC := by
 funext v
 rw [breakL_eq, breakL_d_ceq]; rfl
-- slices.order2CmpFunc[[]int]
abbrev order2L_i : Items := [(.tmp 0, .own 62 (.slice (.int .i64))), (.tmp 1, .dat (.int .i64)), (.tmp 2, .dat (.int .i64)), (.tmp 3, .box 1), (.cell 1 0, .dat (.int .i64)), (.tmp 4, .clo 99 [])]
abbrev order2L_o : Items := [(.obj 0, .own 62 (.slice (.int .i64))), (.obj 1, .box 1), (.cell 1 0, .dat (.int .i64)), (.tmp 0, .dat (.int .i64)), (.tmp 1, .dat (.int .i64))]
abbrev order2L_r : List RS := [.one, .one]
def order2L_d : (List (List Int) × Int × Int × Int × Unit) → Option ((List (List Int) × Int × Int × Int × Unit)) := fun (a0, a1, a2, a3, _) =>
 match idx a0 a2 with
 | none => none
 | some x0 => match idx a0 a1 with
  | none => none
  | some x1 => match with1 ((dget a0 (dnat a2) ([] : List (Int))), (dget a0 (dnat a1) ([] : List (Int))), ()) with
   | none => none
   | some (y2, _) => match (ilt y2 0) with
    | true => some (a0, (IntKind.wrap .i64 (a3 + 1)), a2, a1, ())
    | false => some (a0, a3, a1, a2, ())
def order2L (v : (List (List Int) × Int × Int × Int × Unit)) : Option ((List (List Int) × Int × Int × Int × Unit)) := lock (order2L_d v)
theorem order2L_eq (v : (List (List Int) × Int × Int × Int × Unit)) : order2L v = order2L_d v := lock_eq _
def order2L_dC : (List (List Int) × Int × Int × Int × Unit) → Option ((List (List Int) × Int × Int × Int × Unit)) := fun (a0, a1, a2, a3, _) =>
 match idxR a0 a2 with
 | none => none
 | some x0 => match idxR a0 a1 with
  | none => none
  | some x1 => match with1C ((dget a0 (dnat a2) ([] : List (Int))), (dget a0 (dnat a1) ([] : List (Int))), ()) with
   | none => none
   | some (y2, _) => match (iltR y2 0) with
    | true => some (a0, (IntKind.wrap .i64 (a3 + 1)), a2, a1, ())
    | false => some (a0, a3, a1, a2, ())
theorem order2L_d_ceq : order2L_d = order2L_dC := by
 funext v
 simp only [order2L_d, order2L_dC, idx_eq, ilt_eqR, with1_ceq] <;> rfl
def order2LC (v : denL (leaves order2L_i)) : Option (denL (leaves order2L_o)) := order2L_dC v
theorem order2L_ceq : order2L = order2LC := by
 funext v
 rw [order2L_eq, order2L_d_ceq]; rfl
-- slices.medianCmpFunc[[]int]
abbrev medianL_i : Items := [(.tmp 0, .own 62 (.slice (.int .i64))), (.tmp 1, .dat (.int .i64)), (.tmp 2, .dat (.int .i64)), (.tmp 3, .dat (.int .i64)), (.tmp 4, .box 1), (.cell 1 0, .dat (.int .i64)), (.tmp 5, .clo 99 [])]
abbrev medianL_o : Items := [(.obj 0, .own 62 (.slice (.int .i64))), (.obj 1, .box 1), (.cell 1 0, .dat (.int .i64)), (.tmp 0, .dat (.int .i64))]
abbrev medianL_r : List RS := [.one]
def medianL_d : (List (List Int) × Int × Int × Int × Int × Unit) → Option ((List (List Int) × Int × Int × Unit)) := fun (a0, a1, a2, a3, a4, _) =>
 match order2L (a0, a1, a2, a4, ()) with
 | none => none
 | some (y0, y1, y2, y3, _) => match order2L (y0, y3, a3, y1, ()) with
  | none => none
  | some (y4, y5, y6, y7, _) => match order2L (y4, y2, y6, y5, ()) with
   | none => none
   | some (y8, y9, y10, y11, _) => some (y8, y9, y11, ())
def medianL (v : (List (List Int) × Int × Int × Int × Int × Unit)) : Option ((List (List Int) × Int × Int × Unit)) := lock (medianL_d v)
theorem medianL_eq (v : (List (List Int) × Int × Int × Int × Int × Unit)) : medianL v = medianL_d v := lock_eq _
def medianL_dC : (List (List Int) × Int × Int × Int × Int × Unit) → Option ((List (List Int) × Int × Int × Unit)) := fun (a0, a1, a2, a3, a4, _) =>
 match order2LC (a0, a1, a2, a4, ()) with
 | none => none
 | some (y0, y1, y2, y3, _) => match order2LC (y0, y3, a3, y1, ()) with
  | none => none
  | some (y4, y5, y6, y7, _) => match order2LC (y4, y2, y6, y5, ()) with
   | none => none
   | some (y8, y9, y10, y11, _) => some (y8, y9, y11, ())
theorem medianL_d_ceq : medianL_d = medianL_dC := by
 funext v
 simp only [medianL_d, medianL_dC, order2L_ceq] <;> rfl
def medianLC (v : denL (leaves medianL_i)) : Option (denL (leaves medianL_o)) := medianL_dC v
theorem medianL_ceq : medianL = medianLC := by
 funext v
 rw [medianL_eq, medianL_d_ceq]; rfl
-- slices.medianAdjacentCmpFunc[[]int]
abbrev medAdjL_i : Items := [(.tmp 0, .own 62 (.slice (.int .i64))), (.tmp 1, .dat (.int .i64)), (.tmp 2, .box 1), (.cell 1 0, .dat (.int .i64)), (.tmp 3, .clo 99 [])]
abbrev medAdjL_o : Items := [(.obj 0, .own 62 (.slice (.int .i64))), (.obj 1, .box 1), (.cell 1 0, .dat (.int .i64)), (.tmp 0, .dat (.int .i64))]
abbrev medAdjL_r : List RS := [.one]
def medAdjL_d : (List (List Int) × Int × Int × Unit) → Option ((List (List Int) × Int × Int × Unit)) := fun (a0, a1, a2, _) =>
 match medianL (a0, (IntKind.wrap .i64 (a1 - 1)), a1, (IntKind.wrap .i64 (a1 + 1)), a2, ()) with
 | none => none
 | some (y0, y1, y2, _) => some (y0, y1, y2, ())
def medAdjL (v : (List (List Int) × Int × Int × Unit)) : Option ((List (List Int) × Int × Int × Unit)) := lock (medAdjL_d v)
theorem medAdjL_eq (v : (List (List Int) × Int × Int × Unit)) : medAdjL v = medAdjL_d v := lock_eq _
def medAdjL_dC : (List (List Int) × Int × Int × Unit) → Option ((List (List Int) × Int × Int × Unit)) := fun (a0, a1, a2, _) =>
 match medianLC (a0, (IntKind.wrap .i64 (a1 - 1)), a1, (IntKind.wrap .i64 (a1 + 1)), a2, ()) with
 | none => none
 | some (y0, y1, y2, _) => some (y0, y1, y2, ())
theorem medAdjL_d_ceq : medAdjL_d = medAdjL_dC := by
 funext v
 simp only [medAdjL_d, medAdjL_dC, medianL_ceq] <;> rfl
def medAdjLC (v : denL (leaves medAdjL_i)) : Option (denL (leaves medAdjL_o)) := medAdjL_dC v
theorem medAdjL_ceq : medAdjL = medAdjLC := by
 funext v
 rw [medAdjL_eq, medAdjL_d_ceq]; rfl
-- slices.choosePivotCmpFunc[[]int]
abbrev pivotL_i : Items := [(.tmp 0, .own 62 (.slice (.int .i64))), (.tmp 1, .dat (.int .i64)), (.tmp 2, .dat (.int .i64)), (.tmp 3, .clo 99 [])]
abbrev pivotL_o : Items := [(.obj 0, .own 62 (.slice (.int .i64))), (.tmp 0, .dat (.int .i64)), (.tmp 1, .dat (.int .i64))]
abbrev pivotL_r : List RS := [.one, .one]
def pivotL_d : (List (List Int) × Int × Int × Unit) → Option ((List (List Int) × Int × Int × Unit)) := fun (a0, a1, a2, _) =>
 match quo? .i64 (IntKind.wrap .i64 (a2 - a1)) 4 with
 | none => none
 | some x0 => match quo? .i64 (IntKind.wrap .i64 (a2 - a1)) 4 with
  | none => none
  | some x1 => match quo? .i64 (IntKind.wrap .i64 (a2 - a1)) 4 with
   | none => none
   | some x2 => match (ile 8 (IntKind.wrap .i64 (a2 - a1))) with
    | true => match (ile 50 (IntKind.wrap .i64 (a2 - a1))) with
     | true => match medAdjL (a0, (IntKind.wrap .i64 (a1 + (IntKind.wrap .i64 (x0 * 1)))), 0, ()) with
      | none => none
      | some (y3, y4, y5, _) => match medAdjL (y3, (IntKind.wrap .i64 (a1 + (IntKind.wrap .i64 (x1 * 2)))), y4, ()) with
       | none => none
       | some (y6, y7, y8, _) => match medAdjL (y6, (IntKind.wrap .i64 (a1 + (IntKind.wrap .i64 (x2 * 3)))), y7, ()) with
        | none => none
        | some (y9, y10, y11, _) => match medianL (y9, y5, y8, y11, y10, ()) with
         | none => none
         | some (y12, y13, y14, _) => match (ieq y13 0) with
          | true => some (y12, y14, 1, ())
          | false => match (ieq y13 12) with
           | true => some (y12, y14, 2, ())
           | false => some (y12, y14, 0, ())
     | false => match medianL (a0, (IntKind.wrap .i64 (a1 + (IntKind.wrap .i64 (x0 * 1)))), (IntKind.wrap .i64 (a1 + (IntKind.wrap .i64 (x1 * 2)))), (IntKind.wrap .i64 (a1 + (IntKind.wrap .i64 (x2 * 3)))), 0, ()) with
      | none => none
      | some (y15, y16, y17, _) => match (ieq y16 0) with
       | true => some (y15, y17, 1, ())
       | false => match (ieq y16 12) with
        | true => some (y15, y17, 2, ())
        | false => some (y15, y17, 0, ())
    | false => match (ieq 0 0) with
     | true => some (a0, (IntKind.wrap .i64 (a1 + (IntKind.wrap .i64 (x1 * 2)))), 1, ())
     | false => match (ieq 0 12) with
      | true => some (a0, (IntKind.wrap .i64 (a1 + (IntKind.wrap .i64 (x1 * 2)))), 2, ())
      | false => some (a0, (IntKind.wrap .i64 (a1 + (IntKind.wrap .i64 (x1 * 2)))), 0, ())
def pivotL (v : (List (List Int) × Int × Int × Unit)) : Option ((List (List Int) × Int × Int × Unit)) := lock (pivotL_d v)
theorem pivotL_eq (v : (List (List Int) × Int × Int × Unit)) : pivotL v = pivotL_d v := lock_eq _
def pivotL_dC : (List (List Int) × Int × Int × Unit) → Option ((List (List Int) × Int × Int × Unit)) := fun (a0, a1, a2, _) =>
 match quoR .i64 (IntKind.wrap .i64 (a2 - a1)) 4 with
 | none => none
 | some x0 => match quoR .i64 (IntKind.wrap .i64 (a2 - a1)) 4 with
  | none => none
  | some x1 => match quoR .i64 (IntKind.wrap .i64 (a2 - a1)) 4 with
   | none => none
   | some x2 => match (ileR 8 (IntKind.wrap .i64 (a2 - a1))) with
    | true => match (ileR 50 (IntKind.wrap .i64 (a2 - a1))) with
     | true => match medAdjLC (a0, (IntKind.wrap .i64 (a1 + (IntKind.wrap .i64 (x0 * 1)))), 0, ()) with
      | none => none
      | some (y3, y4, y5, _) => match medAdjLC (y3, (IntKind.wrap .i64 (a1 + (IntKind.wrap .i64 (x1 * 2)))), y4, ()) with
       | none => none
       | some (y6, y7, y8, _) => match medAdjLC (y6, (IntKind.wrap .i64 (a1 + (IntKind.wrap .i64 (x2 * 3)))), y7, ()) with
        | none => none
        | some (y9, y10, y11, _) => match medianLC (y9, y5, y8, y11, y10, ()) with
         | none => none
         | some (y12, y13, y14, _) => match (ieqR y13 0) with
          | true => some (y12, y14, 1, ())
          | false => match (ieqR y13 12) with
           | true => some (y12, y14, 2, ())
           | false => some (y12, y14, 0, ())
     | false => match medianLC (a0, (IntKind.wrap .i64 (a1 + (IntKind.wrap .i64 (x0 * 1)))), (IntKind.wrap .i64 (a1 + (IntKind.wrap .i64 (x1 * 2)))), (IntKind.wrap .i64 (a1 + (IntKind.wrap .i64 (x2 * 3)))), 0, ()) with
      | none => none
      | some (y15, y16, y17, _) => match (ieqR y16 0) with
       | true => some (y15, y17, 1, ())
       | false => match (ieqR y16 12) with
        | true => some (y15, y17, 2, ())
        | false => some (y15, y17, 0, ())
    | false => match (ieqR 0 0) with
     | true => some (a0, (IntKind.wrap .i64 (a1 + (IntKind.wrap .i64 (x1 * 2)))), 1, ())
     | false => match (ieqR 0 12) with
      | true => some (a0, (IntKind.wrap .i64 (a1 + (IntKind.wrap .i64 (x1 * 2)))), 2, ())
      | false => some (a0, (IntKind.wrap .i64 (a1 + (IntKind.wrap .i64 (x1 * 2)))), 0, ())
theorem pivotL_d_ceq : pivotL_d = pivotL_dC := by
 funext v
 simp only [pivotL_d, pivotL_dC, quo_eq, ile_eqR, ieq_eqR, medianL_ceq, medAdjL_ceq] <;> rfl
def pivotLC (v : denL (leaves pivotL_i)) : Option (denL (leaves pivotL_o)) := pivotL_dC v
theorem pivotL_ceq : pivotL = pivotLC := by
 funext v
 rw [pivotL_eq, pivotL_d_ceq]; rfl
-- slices.reverseRangeCmpFunc[[]int]
abbrev revL_i : Items := [(.tmp 0, .own 62 (.slice (.int .i64))), (.tmp 1, .dat (.int .i64)), (.tmp 2, .dat (.int .i64)), (.tmp 3, .clo 99 [])]
abbrev revL_o : Items := [(.obj 0, .own 62 (.slice (.int .i64)))]
abbrev revL_r : List RS := []
abbrev revL_i0 : Items := [(.obj 0, .own 62 (.slice (.int .i64))), (.tmp 0, .own' 0), (.tmp 8, .dat (.int .i64)), (.tmp 9, .dat (.int .i64))]
abbrev revL_o0 : Outs := [(.exit 0, [(.obj 0, .own 62 (.slice (.int .i64)))])]
def revL_s0 : (List (List Int) × Int × Int × Unit) → Option ((List (List Int) × Int × Int × Unit) ⊕ (List (List Int) × Unit) ⊕ Unit) := fun (a0, a1, a2, _) =>
 match (ilt a1 a2) with
 | true => match idx a0 a2 with
  | none => none
  | some x0 => match idx a0 a1 with
   | none => none
   | some x1 => match idx a0 a1 with
    | none => none
    | some x2 => match idx (dset a0 (dnat a1) (dget a0 (dnat a2) ([] : List (Int)))) a2 with
     | none => none
     | some x3 => some (.inl ((dset (dset a0 (dnat a1) (dget a0 (dnat a2) ([] : List (Int)))) (dnat a2) (dget a0 (dnat a1) ([] : List (Int)))), (IntKind.wrap .i64 (a1 + 1)), (IntKind.wrap .i64 (a2 - 1)), ()))
 | false => some (.inr (.inl (a0, ())))
def revL_d : (List (List Int) × Int × Int × Unit) → Option ((List (List Int) × Unit)) := fun (a0, a1, a2, _) =>
 match iterL revL_s0 many (a0, a1, (IntKind.wrap .i64 (a2 - 1)), ()) with
 | none => none
 | some r => match r with
  | .inl (o0, _) => some (o0, ())
  | .inr _ => none
def revL (v : (List (List Int) × Int × Int × Unit)) : Option ((List (List Int) × Unit)) := lock (revL_d v)
theorem revL_eq (v : (List (List Int) × Int × Int × Unit)) : revL v = revL_d v := lock_eq _
def revL_s0C : (List (List Int) × Int × Int × Unit) → Option ((List (List Int) × Int × Int × Unit) ⊕ (List (List Int) × Unit) ⊕ Unit) := fun (a0, a1, a2, _) =>
 match (iltR a1 a2) with
 | true => match idxR a0 a2 with
  | none => none
  | some x0 => match idxR a0 a1 with
   | none => none
   | some x1 => match idxR a0 a1 with
    | none => none
    | some x2 => match idxR (dset a0 (dnat a1) (dget a0 (dnat a2) ([] : List (Int)))) a2 with
     | none => none
     | some x3 => some (.inl ((dset (dset a0 (dnat a1) (dget a0 (dnat a2) ([] : List (Int)))) (dnat a2) (dget a0 (dnat a1) ([] : List (Int)))), (IntKind.wrap .i64 (a1 + 1)), (IntKind.wrap .i64 (a2 - 1)), ()))
 | false => some (.inr (.inl (a0, ())))
theorem revL_s0_ceq : revL_s0 = revL_s0C := by
 funext v
 simp only [revL_s0, revL_s0C, idx_eq, ilt_eqR] <;> rfl
def revL_dC : (List (List Int) × Int × Int × Unit) → Option ((List (List Int) × Unit)) := fun (a0, a1, a2, _) =>
 match iterO revL_s0C many (a0, a1, (IntKind.wrap .i64 (a2 - 1)), ()) with
 | none => none
 | some r => match r with
  | .inl (o0, _) => some (o0, ())
  | .inr _ => none
theorem revL_d_ceq : revL_d = revL_dC := by
 funext v
 simp only [revL_d, revL_dC, iterL_eq, revL_s0_ceq] <;> rfl
def revLC (v : denL (leaves revL_i)) : Option (denL (leaves revL_o)) := revL_dC v
theorem revL_ceq : revL = revLC := by
 funext v
 rw [revL_eq, revL_d_ceq]; rfl
-- slices.partialInsertionSortCmpFunc[[]int]
abbrev partInsL_i : Items := [(.tmp 0, .own 62 (.slice (.int .i64))), (.tmp 1, .dat (.int .i64)), (.tmp 2, .dat (.int .i64)), (.tmp 3, .clo 99 [])]
abbrev partInsL_o : Items := [(.obj 0, .own 62 (.slice (.int .i64))), (.tmp 0, .dat .bool)]
abbrev partInsL_r : List RS := [.one]
abbrev partInsL_i3 : Items := [(.obj 0, .own 62 (.slice (.int .i64))), (.tmp 0, .own' 0), (.tmp 1, .dat (.int .i64)), (.tmp 2, .dat (.int .i64)), (.tmp 3, .clo 99 []), (.tmp 9, .dat (.int .i64)), (.tmp 10, .dat (.int .i64)), (.tmp 12, .dat (.int .i64))]
abbrev partInsL_o3 : Outs := [(.exit 6, [(.obj 0, .own 62 (.slice (.int .i64))), (.tmp 0, .own' 0), (.tmp 1, .dat (.int .i64)), (.tmp 2, .dat (.int .i64)), (.tmp 3, .clo 99 []), (.tmp 9, .dat (.int .i64)), (.tmp 10, .dat (.int .i64))])]
def partInsL_s3 : (List (List Int) × Int × Int × Int × Int × Int × Unit) → Option ((List (List Int) × Int × Int × Int × Int × Int × Unit) ⊕ (List (List Int) × Int × Int × Int × Int × Unit) ⊕ Unit) := fun (a0, a1, a2, a3, a4, a5, _) =>
 match (ilt a5 a2) with
 | true => match idx a0 a5 with
  | none => none
  | some x0 => match idx a0 (IntKind.wrap .i64 (a5 - 1)) with
   | none => none
   | some x1 => match with1 ((dget a0 (dnat a5) ([] : List (Int))), (dget a0 (dnat (IntKind.wrap .i64 (a5 - 1))) ([] : List (Int))), ()) with
    | none => none
    | some (y2, _) => match (!(ilt y2 0)) with
     | true => some (.inr (.inl (a0, a1, a2, a3, a4, ())))
     | false => match idx a0 (IntKind.wrap .i64 (a5 - 1)) with
      | none => none
      | some x3 => match idx a0 a5 with
       | none => none
       | some x4 => match idx a0 a5 with
        | none => none
        | some x5 => match idx (dset a0 (dnat a5) (dget a0 (dnat (IntKind.wrap .i64 (a5 - 1))) ([] : List (Int)))) (IntKind.wrap .i64 (a5 - 1)) with
         | none => none
         | some x6 => some (.inl ((dset (dset a0 (dnat a5) (dget a0 (dnat (IntKind.wrap .i64 (a5 - 1))) ([] : List (Int)))) (dnat (IntKind.wrap .i64 (a5 - 1))) (dget a0 (dnat a5) ([] : List (Int)))), a1, a2, a3, a4, (IntKind.wrap .i64 (a5 + 1)), ()))
 | false => some (.inr (.inl (a0, a1, a2, a3, a4, ())))
abbrev partInsL_i2 : Items := [(.obj 0, .own 62 (.slice (.int .i64))), (.tmp 0, .own' 0), (.tmp 1, .dat (.int .i64)), (.tmp 2, .dat (.int .i64)), (.tmp 3, .clo 99 []), (.tmp 9, .dat (.int .i64)), (.tmp 10, .dat (.int .i64)), (.tmp 11, .dat (.int .i64))]
abbrev partInsL_o2 : Outs := [(.exit 4, [(.obj 0, .own 62 (.slice (.int .i64))), (.tmp 0, .own' 0), (.tmp 1, .dat (.int .i64)), (.tmp 2, .dat (.int .i64)), (.tmp 3, .clo 99 []), (.tmp 9, .dat (.int .i64)), (.tmp 10, .dat (.int .i64))])]
def partInsL_s2 : (List (List Int) × Int × Int × Int × Int × Int × Unit) → Option ((List (List Int) × Int × Int × Int × Int × Int × Unit) ⊕ (List (List Int) × Int × Int × Int × Int × Unit) ⊕ Unit) := fun (a0, a1, a2, a3, a4, a5, _) =>
 match (ile 1 a5) with
 | true => match idx a0 a5 with
  | none => none
  | some x0 => match idx a0 (IntKind.wrap .i64 (a5 - 1)) with
   | none => none
   | some x1 => match with1 ((dget a0 (dnat a5) ([] : List (Int))), (dget a0 (dnat (IntKind.wrap .i64 (a5 - 1))) ([] : List (Int))), ()) with
    | none => none
    | some (y2, _) => match (!(ilt y2 0)) with
     | true => some (.inr (.inl (a0, a1, a2, a3, a4, ())))
     | false => match idx a0 (IntKind.wrap .i64 (a5 - 1)) with
      | none => none
      | some x3 => match idx a0 a5 with
       | none => none
       | some x4 => match idx a0 a5 with
        | none => none
        | some x5 => match idx (dset a0 (dnat a5) (dget a0 (dnat (IntKind.wrap .i64 (a5 - 1))) ([] : List (Int)))) (IntKind.wrap .i64 (a5 - 1)) with
         | none => none
         | some x6 => some (.inl ((dset (dset a0 (dnat a5) (dget a0 (dnat (IntKind.wrap .i64 (a5 - 1))) ([] : List (Int)))) (dnat (IntKind.wrap .i64 (a5 - 1))) (dget a0 (dnat a5) ([] : List (Int)))), a1, a2, a3, a4, (IntKind.wrap .i64 (a5 - 1)), ()))
 | false => some (.inr (.inl (a0, a1, a2, a3, a4, ())))
abbrev partInsL_i1 : Items := [(.obj 0, .own 62 (.slice (.int .i64))), (.tmp 0, .own' 0), (.tmp 1, .dat (.int .i64)), (.tmp 2, .dat (.int .i64)), (.tmp 3, .clo 99 []), (.tmp 9, .dat (.int .i64)), (.tmp 10, .dat (.int .i64))]
abbrev partInsL_o1 : Outs := [(.exit 2, [(.obj 0, .own 62 (.slice (.int .i64))), (.tmp 0, .own' 0), (.tmp 1, .dat (.int .i64)), (.tmp 2, .dat (.int .i64)), (.tmp 3, .clo 99 []), (.tmp 9, .dat (.int .i64)), (.tmp 10, .dat (.int .i64))])]
def partInsL_s1 : (List (List Int) × Int × Int × Int × Int × Unit) → Option ((List (List Int) × Int × Int × Int × Int × Unit) ⊕ (List (List Int) × Int × Int × Int × Int × Unit) ⊕ Unit) := fun (a0, a1, a2, a3, a4, _) =>
 match (ilt a3 a2) with
 | true => match idx a0 a3 with
  | none => none
  | some x0 => match idx a0 (IntKind.wrap .i64 (a3 - 1)) with
   | none => none
   | some x1 => match with1 ((dget a0 (dnat a3) ([] : List (Int))), (dget a0 (dnat (IntKind.wrap .i64 (a3 - 1))) ([] : List (Int))), ()) with
    | none => none
    | some (y2, _) => match (!(ilt y2 0)) with
     | true => some (.inl (a0, a1, a2, (IntKind.wrap .i64 (a3 + 1)), a4, ()))
     | false => some (.inr (.inl (a0, a1, a2, a3, a4, ())))
 | false => some (.inr (.inl (a0, a1, a2, a3, a4, ())))
abbrev partInsL_i0 : Items := [(.obj 0, .own 62 (.slice (.int .i64))), (.tmp 0, .own' 0), (.tmp 1, .dat (.int .i64)), (.tmp 2, .dat (.int .i64)), (.tmp 3, .clo 99 []), (.tmp 9, .dat (.int .i64)), (.tmp 10, .dat (.int .i64))]
abbrev partInsL_o0 : Outs := [(.ret, [(.obj 0, .own 62 (.slice (.int .i64))), (.tmp 8, .dat .bool)]), (.exit 0, [(.obj 0, .own 62 (.slice (.int .i64)))])]
def partInsL_s0 : (List (List Int) × Int × Int × Int × Int × Unit) → Option ((List (List Int) × Int × Int × Int × Int × Unit) ⊕ (List (List Int) × Bool × Unit) ⊕ (List (List Int) × Unit) ⊕ Unit) := fun (a0, a1, a2, a3, a4, _) =>
 match (ilt a4 5) with
 | true => match iterL partInsL_s1 many (a0, a1, a2, a3, a4, ()) with
  | none => none
  | some r => match r with
   | .inl (o0, o1, o2, o3, o4, _) => match (ieq o3 o2) with
    | true => some (.inr (.inl (o0, true, ())))
    | false => match (ilt (IntKind.wrap .i64 (o2 - o1)) 50) with
     | true => some (.inr (.inl (o0, false, ())))
     | false => match idx o0 (IntKind.wrap .i64 (o3 - 1)) with
      | none => none
      | some x5 => match idx o0 o3 with
       | none => none
       | some x6 => match idx o0 o3 with
        | none => none
        | some x7 => match idx (dset o0 (dnat o3) (dget o0 (dnat (IntKind.wrap .i64 (o3 - 1))) ([] : List (Int)))) (IntKind.wrap .i64 (o3 - 1)) with
         | none => none
         | some x8 => match (ile 2 (IntKind.wrap .i64 (o3 - o1))) with
          | true => match iterL partInsL_s2 many ((dset (dset o0 (dnat o3) (dget o0 (dnat (IntKind.wrap .i64 (o3 - 1))) ([] : List (Int)))) (dnat (IntKind.wrap .i64 (o3 - 1))) (dget o0 (dnat o3) ([] : List (Int)))), o1, o2, o3, o4, (IntKind.wrap .i64 (o3 - 1)), ()) with
           | none => none
           | some r => match r with
            | .inl (o9, o10, o11, o12, o13, _) => match (ile 2 (IntKind.wrap .i64 (o11 - o12))) with
             | true => match iterL partInsL_s3 many (o9, o10, o11, o12, o13, (IntKind.wrap .i64 (o12 + 1)), ()) with
              | none => none
              | some r => match r with
               | .inl (o14, o15, o16, o17, o18, _) => some (.inl (o14, o15, o16, o17, (IntKind.wrap .i64 (o18 + 1)), ()))
               | .inr _ => none
             | false => some (.inl (o9, o10, o11, o12, (IntKind.wrap .i64 (o13 + 1)), ()))
            | .inr _ => none
          | false => match (ile 2 (IntKind.wrap .i64 (o2 - o3))) with
           | true => match iterL partInsL_s3 many ((dset (dset o0 (dnat o3) (dget o0 (dnat (IntKind.wrap .i64 (o3 - 1))) ([] : List (Int)))) (dnat (IntKind.wrap .i64 (o3 - 1))) (dget o0 (dnat o3) ([] : List (Int)))), o1, o2, o3, o4, (IntKind.wrap .i64 (o3 + 1)), ()) with
            | none => none
            | some r => match r with
             | .inl (o19, o20, o21, o22, o23, _) => some (.inl (o19, o20, o21, o22, (IntKind.wrap .i64 (o23 + 1)), ()))
             | .inr _ => none
           | false => some (.inl ((dset (dset o0 (dnat o3) (dget o0 (dnat (IntKind.wrap .i64 (o3 - 1))) ([] : List (Int)))) (dnat (IntKind.wrap .i64 (o3 - 1))) (dget o0 (dnat o3) ([] : List (Int)))), o1, o2, o3, (IntKind.wrap .i64 (o4 + 1)), ()))
   | .inr _ => none
 | false => some (.inr (.inr (.inl (a0, ()))))
def partInsL_d : (List (List Int) × Int × Int × Unit) → Option ((List (List Int) × Bool × Unit)) := fun (a0, a1, a2, _) =>
 match iterL partInsL_s0 many (a0, a1, a2, (IntKind.wrap .i64 (a1 + 1)), 0, ()) with
 | none => none
 | some r => match r with
  | .inl (o0, o1, _) => some (o0, o1, ())
  | .inr r => match r with
   | .inl (o2, _) => some (o2, false, ())
   | .inr _ => none
def partInsL (v : (List (List Int) × Int × Int × Unit)) : Option ((List (List Int) × Bool × Unit)) := lock (partInsL_d v)
theorem partInsL_eq (v : (List (List Int) × Int × Int × Unit)) : partInsL v = partInsL_d v := lock_eq _
def partInsL_s3C : (List (List Int) × Int × Int × Int × Int × Int × Unit) → Option ((List (List Int) × Int × Int × Int × Int × Int × Unit) ⊕ (List (List Int) × Int × Int × Int × Int × Unit) ⊕ Unit) := fun (a0, a1, a2, a3, a4, a5, _) =>
 match (iltR a5 a2) with
 | true => match idxR a0 a5 with
  | none => none
  | some x0 => match idxR a0 (IntKind.wrap .i64 (a5 - 1)) with
   | none => none
   | some x1 => match with1C ((dget a0 (dnat a5) ([] : List (Int))), (dget a0 (dnat (IntKind.wrap .i64 (a5 - 1))) ([] : List (Int))), ()) with
    | none => none
    | some (y2, _) => match (!(iltR y2 0)) with
     | true => some (.inr (.inl (a0, a1, a2, a3, a4, ())))
     | false => match idxR a0 (IntKind.wrap .i64 (a5 - 1)) with
      | none => none
      | some x3 => match idxR a0 a5 with
       | none => none
       | some x4 => match idxR a0 a5 with
        | none => none
        | some x5 => match idxR (dset a0 (dnat a5) (dget a0 (dnat (IntKind.wrap .i64 (a5 - 1))) ([] : List (Int)))) (IntKind.wrap .i64 (a5 - 1)) with
         | none => none
         | some x6 => some (.inl ((dset (dset a0 (dnat a5) (dget a0 (dnat (IntKind.wrap .i64 (a5 - 1))) ([] : List (Int)))) (dnat (IntKind.wrap .i64 (a5 - 1))) (dget a0 (dnat a5) ([] : List (Int)))), a1, a2, a3, a4, (IntKind.wrap .i64 (a5 + 1)), ()))
 | false => some (.inr (.inl (a0, a1, a2, a3, a4, ())))
theorem partInsL_s3_ceq : partInsL_s3 = partInsL_s3C := by
 funext v
 simp only [partInsL_s3, partInsL_s3C, idx_eq, ilt_eqR, with1_ceq] <;> rfl
def partInsL_s2C : (List (List Int) × Int × Int × Int × Int × Int × Unit) → Option ((List (List Int) × Int × Int × Int × Int × Int × Unit) ⊕ (List (List Int) × Int × Int × Int × Int × Unit) ⊕ Unit) := fun (a0, a1, a2, a3, a4, a5, _) =>
 match (ileR 1 a5) with
 | true => match idxR a0 a5 with
  | none => none
  | some x0 => match idxR a0 (IntKind.wrap .i64 (a5 - 1)) with
   | none => none
   | some x1 => match with1C ((dget a0 (dnat a5) ([] : List (Int))), (dget a0 (dnat (IntKind.wrap .i64 (a5 - 1))) ([] : List (Int))), ()) with
    | none => none
    | some (y2, _) => match (!(iltR y2 0)) with
     | true => some (.inr (.inl (a0, a1, a2, a3, a4, ())))
     | false => match idxR a0 (IntKind.wrap .i64 (a5 - 1)) with
      | none => none
      | some x3 => match idxR a0 a5 with
       | none => none
       | some x4 => match idxR a0 a5 with
        | none => none
        | some x5 => match idxR (dset a0 (dnat a5) (dget a0 (dnat (IntKind.wrap .i64 (a5 - 1))) ([] : List (Int)))) (IntKind.wrap .i64 (a5 - 1)) with
         | none => none
         | some x6 => some (.inl ((dset (dset a0 (dnat a5) (dget a0 (dnat (IntKind.wrap .i64 (a5 - 1))) ([] : List (Int)))) (dnat (IntKind.wrap .i64 (a5 - 1))) (dget a0 (dnat a5) ([] : List (Int)))), a1, a2, a3, a4, (IntKind.wrap .i64 (a5 - 1)), ()))
 | false => some (.inr (.inl (a0, a1, a2, a3, a4, ())))
theorem partInsL_s2_ceq : partInsL_s2 = partInsL_s2C := by
 funext v
 simp only [partInsL_s2, partInsL_s2C, idx_eq, ilt_eqR, ile_eqR, with1_ceq] <;> rfl
def partInsL_s1C : (List (List Int) × Int × Int × Int × Int × Unit) → Option ((List (List Int) × Int × Int × Int × Int × Unit) ⊕ (List (List Int) × Int × Int × Int × Int × Unit) ⊕ Unit) := fun (a0, a1, a2, a3, a4, _) =>
 match (iltR a3 a2) with
 | true => match idxR a0 a3 with
  | none => none
  | some x0 => match idxR a0 (IntKind.wrap .i64 (a3 - 1)) with
   | none => none
   | some x1 => match with1C ((dget a0 (dnat a3) ([] : List (Int))), (dget a0 (dnat (IntKind.wrap .i64 (a3 - 1))) ([] : List (Int))), ()) with
    | none => none
    | some (y2, _) => match (!(iltR y2 0)) with
     | true => some (.inl (a0, a1, a2, (IntKind.wrap .i64 (a3 + 1)), a4, ()))
     | false => some (.inr (.inl (a0, a1, a2, a3, a4, ())))
 | false => some (.inr (.inl (a0, a1, a2, a3, a4, ())))
theorem partInsL_s1_ceq : partInsL_s1 = partInsL_s1C := by
 funext v
 simp only [partInsL_s1, partInsL_s1C, idx_eq, ilt_eqR, with1_ceq] <;> rfl
def partInsL_s0C : (List (List Int) × Int × Int × Int × Int × Unit) → Option ((List (List Int) × Int × Int × Int × Int × Unit) ⊕ (List (List Int) × Bool × Unit) ⊕ (List (List Int) × Unit) ⊕ Unit) := fun (a0, a1, a2, a3, a4, _) =>
 match (iltR a4 5) with
 | true => match iterO partInsL_s1C many (a0, a1, a2, a3, a4, ()) with
  | none => none
  | some r => match r with
   | .inl (o0, o1, o2, o3, o4, _) => match (ieqR o3 o2) with
    | true => some (.inr (.inl (o0, true, ())))
    | false => match (iltR (IntKind.wrap .i64 (o2 - o1)) 50) with
     | true => some (.inr (.inl (o0, false, ())))
     | false => match idxR o0 (IntKind.wrap .i64 (o3 - 1)) with
      | none => none
      | some x5 => match idxR o0 o3 with
       | none => none
       | some x6 => match idxR o0 o3 with
        | none => none
        | some x7 => match idxR (dset o0 (dnat o3) (dget o0 (dnat (IntKind.wrap .i64 (o3 - 1))) ([] : List (Int)))) (IntKind.wrap .i64 (o3 - 1)) with
         | none => none
         | some x8 => match (ileR 2 (IntKind.wrap .i64 (o3 - o1))) with
          | true => match iterO partInsL_s2C many ((dset (dset o0 (dnat o3) (dget o0 (dnat (IntKind.wrap .i64 (o3 - 1))) ([] : List (Int)))) (dnat (IntKind.wrap .i64 (o3 - 1))) (dget o0 (dnat o3) ([] : List (Int)))), o1, o2, o3, o4, (IntKind.wrap .i64 (o3 - 1)), ()) with
           | none => none
           | some r => match r with
            | .inl (o9, o10, o11, o12, o13, _) => match (ileR 2 (IntKind.wrap .i64 (o11 - o12))) with
             | true => match iterO partInsL_s3C many (o9, o10, o11, o12, o13, (IntKind.wrap .i64 (o12 + 1)), ()) with
              | none => none
              | some r => match r with
               | .inl (o14, o15, o16, o17, o18, _) => some (.inl (o14, o15, o16, o17, (IntKind.wrap .i64 (o18 + 1)), ()))
               | .inr _ => none
             | false => some (.inl (o9, o10, o11, o12, (IntKind.wrap .i64 (o13 + 1)), ()))
            | .inr _ => none
          | false => match (ileR 2 (IntKind.wrap .i64 (o2 - o3))) with
           | true => match iterO partInsL_s3C many ((dset (dset o0 (dnat o3) (dget o0 (dnat (IntKind.wrap .i64 (o3 - 1))) ([] : List (Int)))) (dnat (IntKind.wrap .i64 (o3 - 1))) (dget o0 (dnat o3) ([] : List (Int)))), o1, o2, o3, o4, (IntKind.wrap .i64 (o3 + 1)), ()) with
            | none => none
            | some r => match r with
             | .inl (o19, o20, o21, o22, o23, _) => some (.inl (o19, o20, o21, o22, (IntKind.wrap .i64 (o23 + 1)), ()))
             | .inr _ => none
           | false => some (.inl ((dset (dset o0 (dnat o3) (dget o0 (dnat (IntKind.wrap .i64 (o3 - 1))) ([] : List (Int)))) (dnat (IntKind.wrap .i64 (o3 - 1))) (dget o0 (dnat o3) ([] : List (Int)))), o1, o2, o3, (IntKind.wrap .i64 (o4 + 1)), ()))
   | .inr _ => none
 | false => some (.inr (.inr (.inl (a0, ()))))
theorem partInsL_s0_ceq : partInsL_s0 = partInsL_s0C := by
 funext v
 simp only [partInsL_s0, partInsL_s0C, idx_eq, iterL_eq, ilt_eqR, ile_eqR, ieq_eqR, partInsL_s3_ceq, partInsL_s2_ceq, partInsL_s1_ceq] <;> rfl
def partInsL_dC : (List (List Int) × Int × Int × Unit) → Option ((List (List Int) × Bool × Unit)) := fun (a0, a1, a2, _) =>
 match iterO partInsL_s0C many (a0, a1, a2, (IntKind.wrap .i64 (a1 + 1)), 0, ()) with
 | none => none
 | some r => match r with
  | .inl (o0, o1, _) => some (o0, o1, ())
  | .inr r => match r with
   | .inl (o2, _) => some (o2, false, ())
   | .inr _ => none
theorem partInsL_d_ceq : partInsL_d = partInsL_dC := by
 funext v
 simp only [partInsL_d, partInsL_dC, iterL_eq, partInsL_s0_ceq] <;> rfl
def partInsLC (v : denL (leaves partInsL_i)) : Option (denL (leaves partInsL_o)) := partInsL_dC v
theorem partInsL_ceq : partInsL = partInsLC := by
 funext v
 rw [partInsL_eq, partInsL_d_ceq]; rfl
-- slices.partitionEqualCmpFunc[[]int]
abbrev partEqL_i : Items := [(.tmp 0, .own 62 (.slice (.int .i64))), (.tmp 1, .dat (.int .i64)), (.tmp 2, .dat (.int .i64)), (.tmp 3, .dat (.int .i64)), (.tmp 4, .clo 99 [])]
abbrev partEqL_o : Items := [(.obj 0, .own 62 (.slice (.int .i64))), (.tmp 0, .dat (.int .i64))]
abbrev partEqL_r : List RS := [.one]
abbrev partEqL_i2 : Items := [(.obj 0, .own 62 (.slice (.int .i64))), (.tmp 0, .own' 0), (.tmp 1, .dat (.int .i64)), (.tmp 4, .clo 99 []), (.tmp 11, .dat (.int .i64)), (.tmp 12, .dat (.int .i64))]
abbrev partEqL_o2 : Outs := [(.exit 4, [(.obj 0, .own 62 (.slice (.int .i64))), (.tmp 0, .own' 0), (.tmp 1, .dat (.int .i64)), (.tmp 4, .clo 99 []), (.tmp 11, .dat (.int .i64)), (.tmp 12, .dat (.int .i64))])]
def partEqL_s2 : (List (List Int) × Int × Int × Int × Unit) → Option ((List (List Int) × Int × Int × Int × Unit) ⊕ (List (List Int) × Int × Int × Int × Unit) ⊕ Unit) := fun (a0, a1, a2, a3, _) =>
 match (ile a2 a3) with
 | true => match idx a0 a1 with
  | none => none
  | some x0 => match idx a0 a3 with
   | none => none
   | some x1 => match with1 ((dget a0 (dnat a1) ([] : List (Int))), (dget a0 (dnat a3) ([] : List (Int))), ()) with
    | none => none
    | some (y2, _) => match (ilt y2 0) with
     | true => some (.inl (a0, a1, a2, (IntKind.wrap .i64 (a3 - 1)), ()))
     | false => some (.inr (.inl (a0, a1, a2, a3, ())))
 | false => some (.inr (.inl (a0, a1, a2, a3, ())))
abbrev partEqL_i1 : Items := [(.obj 0, .own 62 (.slice (.int .i64))), (.tmp 0, .own' 0), (.tmp 1, .dat (.int .i64)), (.tmp 4, .clo 99 []), (.tmp 11, .dat (.int .i64)), (.tmp 12, .dat (.int .i64))]
abbrev partEqL_o1 : Outs := [(.exit 2, [(.obj 0, .own 62 (.slice (.int .i64))), (.tmp 0, .own' 0), (.tmp 1, .dat (.int .i64)), (.tmp 4, .clo 99 []), (.tmp 11, .dat (.int .i64)), (.tmp 12, .dat (.int .i64))])]
def partEqL_s1 : (List (List Int) × Int × Int × Int × Unit) → Option ((List (List Int) × Int × Int × Int × Unit) ⊕ (List (List Int) × Int × Int × Int × Unit) ⊕ Unit) := fun (a0, a1, a2, a3, _) =>
 match (ile a2 a3) with
 | true => match idx a0 a1 with
  | none => none
  | some x0 => match idx a0 a2 with
   | none => none
   | some x1 => match with1 ((dget a0 (dnat a1) ([] : List (Int))), (dget a0 (dnat a2) ([] : List (Int))), ()) with
    | none => none
    | some (y2, _) => match (!(ilt y2 0)) with
     | true => some (.inl (a0, a1, (IntKind.wrap .i64 (a2 + 1)), a3, ()))
     | false => some (.inr (.inl (a0, a1, a2, a3, ())))
 | false => some (.inr (.inl (a0, a1, a2, a3, ())))
abbrev partEqL_i0 : Items := [(.obj 0, .own 62 (.slice (.int .i64))), (.tmp 0, .own' 0), (.tmp 1, .dat (.int .i64)), (.tmp 4, .clo 99 []), (.tmp 11, .dat (.int .i64)), (.tmp 12, .dat (.int .i64))]
abbrev partEqL_o0 : Outs := [(.exit 0, [(.obj 0, .own 62 (.slice (.int .i64))), (.tmp 11, .dat (.int .i64))])]
def partEqL_s0 : (List (List Int) × Int × Int × Int × Unit) → Option ((List (List Int) × Int × Int × Int × Unit) ⊕ (List (List Int) × Int × Unit) ⊕ Unit) := fun (a0, a1, a2, a3, _) =>
 match iterL partEqL_s1 many (a0, a1, a2, a3, ()) with
 | none => none
 | some r => match r with
  | .inl (o0, o1, o2, o3, _) => match iterL partEqL_s2 many (o0, o1, o2, o3, ()) with
   | none => none
   | some r => match r with
    | .inl (o4, o5, o6, o7, _) => match (ilt o7 o6) with
     | true => some (.inr (.inl (o4, o6, ())))
     | false => match idx o4 o7 with
      | none => none
      | some x8 => match idx o4 o6 with
       | none => none
       | some x9 => match idx o4 o6 with
        | none => none
        | some x10 => match idx (dset o4 (dnat o6) (dget o4 (dnat o7) ([] : List (Int)))) o7 with
         | none => none
         | some x11 => some (.inl ((dset (dset o4 (dnat o6) (dget o4 (dnat o7) ([] : List (Int)))) (dnat o7) (dget o4 (dnat o6) ([] : List (Int)))), o5, (IntKind.wrap .i64 (o6 + 1)), (IntKind.wrap .i64 (o7 - 1)), ()))
    | .inr _ => none
  | .inr _ => none
def partEqL_d : (List (List Int) × Int × Int × Int × Unit) → Option ((List (List Int) × Int × Unit)) := fun (a0, a1, a2, a3, _) =>
 match idx a0 a3 with
 | none => none
 | some x0 => match idx a0 a1 with
  | none => none
  | some x1 => match idx a0 a1 with
   | none => none
   | some x2 => match idx (dset a0 (dnat a1) (dget a0 (dnat a3) ([] : List (Int)))) a3 with
    | none => none
    | some x3 => match iterL partEqL_s0 many ((dset (dset a0 (dnat a1) (dget a0 (dnat a3) ([] : List (Int)))) (dnat a3) (dget a0 (dnat a1) ([] : List (Int)))), a1, (IntKind.wrap .i64 (a1 + 1)), (IntKind.wrap .i64 (a2 - 1)), ()) with
     | none => none
     | some r => match r with
      | .inl (o4, o5, _) => some (o4, o5, ())
      | .inr _ => none
def partEqL (v : (List (List Int) × Int × Int × Int × Unit)) : Option ((List (List Int) × Int × Unit)) := lock (partEqL_d v)
theorem partEqL_eq (v : (List (List Int) × Int × Int × Int × Unit)) : partEqL v = partEqL_d v := lock_eq _
def partEqL_s2C : (List (List Int) × Int × Int × Int × Unit) → Option ((List (List Int) × Int × Int × Int × Unit) ⊕ (List (List Int) × Int × Int × Int × Unit) ⊕ Unit) := fun (a0, a1, a2, a3, _) =>
 match (ileR a2 a3) with
 | true => match idxR a0 a1 with
  | none => none
  | some x0 => match idxR a0 a3 with
   | none => none
   | some x1 => match with1C ((dget a0 (dnat a1) ([] : List (Int))), (dget a0 (dnat a3) ([] : List (Int))), ()) with
    | none => none
    | some (y2, _) => match (iltR y2 0) with
     | true => some (.inl (a0, a1, a2, (IntKind.wrap .i64 (a3 - 1)), ()))
     | false => some (.inr (.inl (a0, a1, a2, a3, ())))
 | false => some (.inr (.inl (a0, a1, a2, a3, ())))
theorem partEqL_s2_ceq : partEqL_s2 = partEqL_s2C := by
 funext v
 simp only [partEqL_s2, partEqL_s2C, idx_eq, ilt_eqR, ile_eqR, with1_ceq] <;> rfl
def partEqL_s1C : (List (List Int) × Int × Int × Int × Unit) → Option ((List (List Int) × Int × Int × Int × Unit) ⊕ (List (List Int) × Int × Int × Int × Unit) ⊕ Unit) := fun (a0, a1, a2, a3, _) =>
 match (ileR a2 a3) with
 | true => match idxR a0 a1 with
  | none => none
  | some x0 => match idxR a0 a2 with
   | none => none
   | some x1 => match with1C ((dget a0 (dnat a1) ([] : List (Int))), (dget a0 (dnat a2) ([] : List (Int))), ()) with
    | none => none
    | some (y2, _) => match (!(iltR y2 0)) with
     | true => some (.inl (a0, a1, (IntKind.wrap .i64 (a2 + 1)), a3, ()))
     | false => some (.inr (.inl (a0, a1, a2, a3, ())))
 | false => some (.inr (.inl (a0, a1, a2, a3, ())))
theorem partEqL_s1_ceq : partEqL_s1 = partEqL_s1C := by
 funext v
 simp only [partEqL_s1, partEqL_s1C, idx_eq, ilt_eqR, ile_eqR, with1_ceq] <;> rfl
def partEqL_s0C : (List (List Int) × Int × Int × Int × Unit) → Option ((List (List Int) × Int × Int × Int × Unit) ⊕ (List (List Int) × Int × Unit) ⊕ Unit) := fun (a0, a1, a2, a3, _) =>
 match iterO partEqL_s1C many (a0, a1, a2, a3, ()) with
 | none => none
 | some r => match r with
  | .inl (o0, o1, o2, o3, _) => match iterO partEqL_s2C many (o0, o1, o2, o3, ()) with
   | none => none
   | some r => match r with
    | .inl (o4, o5, o6, o7, _) => match (iltR o7 o6) with
     | true => some (.inr (.inl (o4, o6, ())))
     | false => match idxR o4 o7 with
      | none => none
      | some x8 => match idxR o4 o6 with
       | none => none
       | some x9 => match idxR o4 o6 with
        | none => none
        | some x10 => match idxR (dset o4 (dnat o6) (dget o4 (dnat o7) ([] : List (Int)))) o7 with
         | none => none
         | some x11 => some (.inl ((dset (dset o4 (dnat o6) (dget o4 (dnat o7) ([] : List (Int)))) (dnat o7) (dget o4 (dnat o6) ([] : List (Int)))), o5, (IntKind.wrap .i64 (o6 + 1)), (IntKind.wrap .i64 (o7 - 1)), ()))
    | .inr _ => none
  | .inr _ => none
theorem partEqL_s0_ceq : partEqL_s0 = partEqL_s0C := by
 funext v
 simp only [partEqL_s0, partEqL_s0C, idx_eq, iterL_eq, ilt_eqR, partEqL_s2_ceq, partEqL_s1_ceq] <;> rfl
def partEqL_dC : (List (List Int) × Int × Int × Int × Unit) → Option ((List (List Int) × Int × Unit)) := fun (a0, a1, a2, a3, _) =>
 match idxR a0 a3 with
 | none => none
 | some x0 => match idxR a0 a1 with
  | none => none
  | some x1 => match idxR a0 a1 with
   | none => none
   | some x2 => match idxR (dset a0 (dnat a1) (dget a0 (dnat a3) ([] : List (Int)))) a3 with
    | none => none
    | some x3 => match iterO partEqL_s0C many ((dset (dset a0 (dnat a1) (dget a0 (dnat a3) ([] : List (Int)))) (dnat a3) (dget a0 (dnat a1) ([] : List (Int)))), a1, (IntKind.wrap .i64 (a1 + 1)), (IntKind.wrap .i64 (a2 - 1)), ()) with
     | none => none
     | some r => match r with
      | .inl (o4, o5, _) => some (o4, o5, ())
      | .inr _ => none
theorem partEqL_d_ceq : partEqL_d = partEqL_dC := by
 funext v
 simp only [partEqL_d, partEqL_dC, idx_eq, iterL_eq, partEqL_s0_ceq] <;> rfl
def partEqLC (v : denL (leaves partEqL_i)) : Option (denL (leaves partEqL_o)) := partEqL_dC v
theorem partEqL_ceq : partEqL = partEqLC := by
 funext v
 rw [partEqL_eq, partEqL_d_ceq]; rfl
-- slices.partitionCmpFunc[[]int]
abbrev partL_i : Items := [(.tmp 0, .own 62 (.slice (.int .i64))), (.tmp 1, .dat (.int .i64)), (.tmp 2, .dat (.int .i64)), (.tmp 3, .dat (.int .i64)), (.tmp 4, .clo 99 [])]
abbrev partL_o : Items := [(.obj 0, .own 62 (.slice (.int .i64))), (.tmp 0, .dat (.int .i64)), (.tmp 1, .dat .bool)]
abbrev partL_r : List RS := [.one, .one]
abbrev partL_i4 : Items := [(.obj 0, .own 62 (.slice (.int .i64))), (.tmp 0, .own' 0), (.tmp 1, .dat (.int .i64)), (.tmp 4, .clo 99 []), (.tmp 12, .dat (.int .i64)), (.tmp 13, .dat (.int .i64))]
abbrev partL_o4 : Outs := [(.exit 8, [(.obj 0, .own 62 (.slice (.int .i64))), (.tmp 0, .own' 0), (.tmp 1, .dat (.int .i64)), (.tmp 4, .clo 99 []), (.tmp 12, .dat (.int .i64)), (.tmp 13, .dat (.int .i64))])]
def partL_s4 : (List (List Int) × Int × Int × Int × Unit) → Option ((List (List Int) × Int × Int × Int × Unit) ⊕ (List (List Int) × Int × Int × Int × Unit) ⊕ Unit) := fun (a0, a1, a2, a3, _) =>
 match (ile a2 a3) with
 | true => match idx a0 a3 with
  | none => none
  | some x0 => match idx a0 a1 with
   | none => none
   | some x1 => match with1 ((dget a0 (dnat a3) ([] : List (Int))), (dget a0 (dnat a1) ([] : List (Int))), ()) with
    | none => none
    | some (y2, _) => match (!(ilt y2 0)) with
     | true => some (.inl (a0, a1, a2, (IntKind.wrap .i64 (a3 - 1)), ()))
     | false => some (.inr (.inl (a0, a1, a2, a3, ())))
 | false => some (.inr (.inl (a0, a1, a2, a3, ())))
abbrev partL_i3 : Items := [(.obj 0, .own 62 (.slice (.int .i64))), (.tmp 0, .own' 0), (.tmp 1, .dat (.int .i64)), (.tmp 4, .clo 99 []), (.tmp 12, .dat (.int .i64)), (.tmp 13, .dat (.int .i64))]
abbrev partL_o3 : Outs := [(.exit 6, [(.obj 0, .own 62 (.slice (.int .i64))), (.tmp 0, .own' 0), (.tmp 1, .dat (.int .i64)), (.tmp 4, .clo 99 []), (.tmp 12, .dat (.int .i64)), (.tmp 13, .dat (.int .i64))])]
def partL_s3 : (List (List Int) × Int × Int × Int × Unit) → Option ((List (List Int) × Int × Int × Int × Unit) ⊕ (List (List Int) × Int × Int × Int × Unit) ⊕ Unit) := fun (a0, a1, a2, a3, _) =>
 match (ile a2 a3) with
 | true => match idx a0 a2 with
  | none => none
  | some x0 => match idx a0 a1 with
   | none => none
   | some x1 => match with1 ((dget a0 (dnat a2) ([] : List (Int))), (dget a0 (dnat a1) ([] : List (Int))), ()) with
    | none => none
    | some (y2, _) => match (ilt y2 0) with
     | true => some (.inl (a0, a1, (IntKind.wrap .i64 (a2 + 1)), a3, ()))
     | false => some (.inr (.inl (a0, a1, a2, a3, ())))
 | false => some (.inr (.inl (a0, a1, a2, a3, ())))
abbrev partL_i2 : Items := [(.obj 0, .own 62 (.slice (.int .i64))), (.tmp 0, .own' 0), (.tmp 1, .dat (.int .i64)), (.tmp 4, .clo 99 []), (.tmp 12, .dat (.int .i64)), (.tmp 13, .dat (.int .i64))]
abbrev partL_o2 : Outs := [(.exit 4, [(.obj 0, .own 62 (.slice (.int .i64))), (.tmp 0, .own' 0), (.tmp 1, .dat (.int .i64)), (.tmp 13, .dat (.int .i64))])]
def partL_s2 : (List (List Int) × Int × Int × Int × Unit) → Option ((List (List Int) × Int × Int × Int × Unit) ⊕ (List (List Int) × Int × Int × Unit) ⊕ Unit) := fun (a0, a1, a2, a3, _) =>
 match iterL partL_s3 many (a0, a1, a2, a3, ()) with
 | none => none
 | some r => match r with
  | .inl (o0, o1, o2, o3, _) => match iterL partL_s4 many (o0, o1, o2, o3, ()) with
   | none => none
   | some r => match r with
    | .inl (o4, o5, o6, o7, _) => match (ilt o7 o6) with
     | true => some (.inr (.inl (o4, o5, o7, ())))
     | false => match idx o4 o7 with
      | none => none
      | some x8 => match idx o4 o6 with
       | none => none
       | some x9 => match idx o4 o6 with
        | none => none
        | some x10 => match idx (dset o4 (dnat o6) (dget o4 (dnat o7) ([] : List (Int)))) o7 with
         | none => none
         | some x11 => some (.inl ((dset (dset o4 (dnat o6) (dget o4 (dnat o7) ([] : List (Int)))) (dnat o7) (dget o4 (dnat o6) ([] : List (Int)))), o5, (IntKind.wrap .i64 (o6 + 1)), (IntKind.wrap .i64 (o7 - 1)), ()))
    | .inr _ => none
  | .inr _ => none
abbrev partL_i1 : Items := [(.obj 0, .own 62 (.slice (.int .i64))), (.tmp 0, .own' 0), (.tmp 1, .dat (.int .i64)), (.tmp 4, .clo 99 []), (.tmp 12, .dat (.int .i64)), (.tmp 13, .dat (.int .i64))]
abbrev partL_o1 : Outs := [(.exit 2, [(.obj 0, .own 62 (.slice (.int .i64))), (.tmp 0, .own' 0), (.tmp 1, .dat (.int .i64)), (.tmp 4, .clo 99 []), (.tmp 12, .dat (.int .i64)), (.tmp 13, .dat (.int .i64))])]
def partL_s1 : (List (List Int) × Int × Int × Int × Unit) → Option ((List (List Int) × Int × Int × Int × Unit) ⊕ (List (List Int) × Int × Int × Int × Unit) ⊕ Unit) := fun (a0, a1, a2, a3, _) =>
 match (ile a2 a3) with
 | true => match idx a0 a3 with
  | none => none
  | some x0 => match idx a0 a1 with
   | none => none
   | some x1 => match with1 ((dget a0 (dnat a3) ([] : List (Int))), (dget a0 (dnat a1) ([] : List (Int))), ()) with
    | none => none
    | some (y2, _) => match (!(ilt y2 0)) with
     | true => some (.inl (a0, a1, a2, (IntKind.wrap .i64 (a3 - 1)), ()))
     | false => some (.inr (.inl (a0, a1, a2, a3, ())))
 | false => some (.inr (.inl (a0, a1, a2, a3, ())))
abbrev partL_i0 : Items := [(.obj 0, .own 62 (.slice (.int .i64))), (.tmp 0, .own' 0), (.tmp 1, .dat (.int .i64)), (.tmp 4, .clo 99 []), (.tmp 12, .dat (.int .i64)), (.tmp 13, .dat (.int .i64))]
abbrev partL_o0 : Outs := [(.exit 0, [(.obj 0, .own 62 (.slice (.int .i64))), (.tmp 0, .own' 0), (.tmp 1, .dat (.int .i64)), (.tmp 4, .clo 99 []), (.tmp 12, .dat (.int .i64)), (.tmp 13, .dat (.int .i64))])]
def partL_s0 : (List (List Int) × Int × Int × Int × Unit) → Option ((List (List Int) × Int × Int × Int × Unit) ⊕ (List (List Int) × Int × Int × Int × Unit) ⊕ Unit) := fun (a0, a1, a2, a3, _) =>
 match (ile a2 a3) with
 | true => match idx a0 a2 with
  | none => none
  | some x0 => match idx a0 a1 with
   | none => none
   | some x1 => match with1 ((dget a0 (dnat a2) ([] : List (Int))), (dget a0 (dnat a1) ([] : List (Int))), ()) with
    | none => none
    | some (y2, _) => match (ilt y2 0) with
     | true => some (.inl (a0, a1, (IntKind.wrap .i64 (a2 + 1)), a3, ()))
     | false => some (.inr (.inl (a0, a1, a2, a3, ())))
 | false => some (.inr (.inl (a0, a1, a2, a3, ())))
def partL_d : (List (List Int) × Int × Int × Int × Unit) → Option ((List (List Int) × Int × Bool × Unit)) := fun (a0, a1, a2, a3, _) =>
 match idx a0 a3 with
 | none => none
 | some x0 => match idx a0 a1 with
  | none => none
  | some x1 => match idx a0 a1 with
   | none => none
   | some x2 => match idx (dset a0 (dnat a1) (dget a0 (dnat a3) ([] : List (Int)))) a3 with
    | none => none
    | some x3 => match iterL partL_s0 many ((dset (dset a0 (dnat a1) (dget a0 (dnat a3) ([] : List (Int)))) (dnat a3) (dget a0 (dnat a1) ([] : List (Int)))), a1, (IntKind.wrap .i64 (a1 + 1)), (IntKind.wrap .i64 (a2 - 1)), ()) with
     | none => none
     | some r => match r with
      | .inl (o4, o5, o6, o7, _) => match iterL partL_s1 many (o4, o5, o6, o7, ()) with
       | none => none
       | some r => match r with
        | .inl (o8, o9, o10, o11, _) => match (ilt o11 o10) with
         | true => match idx o8 o9 with
          | none => none
          | some x12 => match idx o8 o11 with
           | none => none
           | some x13 => match idx o8 o11 with
            | none => none
            | some x14 => match idx (dset o8 (dnat o11) (dget o8 (dnat o9) ([] : List (Int)))) o9 with
             | none => none
             | some x15 => some ((dset (dset o8 (dnat o11) (dget o8 (dnat o9) ([] : List (Int)))) (dnat o9) (dget o8 (dnat o11) ([] : List (Int)))), o11, true, ())
         | false => match idx o8 o11 with
          | none => none
          | some x16 => match idx o8 o10 with
           | none => none
           | some x17 => match idx o8 o10 with
            | none => none
            | some x18 => match idx (dset o8 (dnat o10) (dget o8 (dnat o11) ([] : List (Int)))) o11 with
             | none => none
             | some x19 => match iterL partL_s2 many ((dset (dset o8 (dnat o10) (dget o8 (dnat o11) ([] : List (Int)))) (dnat o11) (dget o8 (dnat o10) ([] : List (Int)))), o9, (IntKind.wrap .i64 (o10 + 1)), (IntKind.wrap .i64 (o11 - 1)), ()) with
              | none => none
              | some r => match r with
               | .inl (o20, o21, o22, _) => match idx o20 o21 with
                | none => none
                | some x23 => match idx o20 o22 with
                 | none => none
                 | some x24 => match idx o20 o22 with
                  | none => none
                  | some x25 => match idx (dset o20 (dnat o22) (dget o20 (dnat o21) ([] : List (Int)))) o21 with
                   | none => none
                   | some x26 => some ((dset (dset o20 (dnat o22) (dget o20 (dnat o21) ([] : List (Int)))) (dnat o21) (dget o20 (dnat o22) ([] : List (Int)))), o22, false, ())
               | .inr _ => none
        | .inr _ => none
      | .inr _ => none
def partL (v : (List (List Int) × Int × Int × Int × Unit)) : Option ((List (List Int) × Int × Bool × Unit)) := lock (partL_d v)
theorem partL_eq (v : (List (List Int) × Int × Int × Int × Unit)) : partL v = partL_d v := lock_eq _
def partL_s4C : (List (List Int) × Int × Int × Int × Unit) → Option ((List (List Int) × Int × Int × Int × Unit) ⊕ (List (List Int) × Int × Int × Int × Unit) ⊕ Unit) := fun (a0, a1, a2, a3, _) =>
 match (ileR a2 a3) with
 | true => match idxR a0 a3 with
  | none => none
  | some x0 => match idxR a0 a1 with
   | none => none
   | some x1 => match with1C ((dget a0 (dnat a3) ([] : List (Int))), (dget a0 (dnat a1) ([] : List (Int))), ()) with
    | none => none
    | some (y2, _) => match (!(iltR y2 0)) with
     | true => some (.inl (a0, a1, a2, (IntKind.wrap .i64 (a3 - 1)), ()))
     | false => some (.inr (.inl (a0, a1, a2, a3, ())))
 | false => some (.inr (.inl (a0, a1, a2, a3, ())))
theorem partL_s4_ceq : partL_s4 = partL_s4C := by
 funext v
 simp only [partL_s4, partL_s4C, idx_eq, ilt_eqR, ile_eqR, with1_ceq] <;> rfl
def partL_s3C : (List (List Int) × Int × Int × Int × Unit) → Option ((List (List Int) × Int × Int × Int × Unit) ⊕ (List (List Int) × Int × Int × Int × Unit) ⊕ Unit) := fun (a0, a1, a2, a3, _) =>
 match (ileR a2 a3) with
 | true => match idxR a0 a2 with
  | none => none
  | some x0 => match idxR a0 a1 with
   | none => none
   | some x1 => match with1C ((dget a0 (dnat a2) ([] : List (Int))), (dget a0 (dnat a1) ([] : List (Int))), ()) with
    | none => none
    | some (y2, _) => match (iltR y2 0) with
     | true => some (.inl (a0, a1, (IntKind.wrap .i64 (a2 + 1)), a3, ()))
     | false => some (.inr (.inl (a0, a1, a2, a3, ())))
 | false => some (.inr (.inl (a0, a1, a2, a3, ())))
theorem partL_s3_ceq : partL_s3 = partL_s3C := by
 funext v
 simp only [partL_s3, partL_s3C, idx_eq, ilt_eqR, ile_eqR, with1_ceq] <;> rfl
def partL_s2C : (List (List Int) × Int × Int × Int × Unit) → Option ((List (List Int) × Int × Int × Int × Unit) ⊕ (List (List Int) × Int × Int × Unit) ⊕ Unit) := fun (a0, a1, a2, a3, _) =>
 match iterO partL_s3C many (a0, a1, a2, a3, ()) with
 | none => none
 | some r => match r with
  | .inl (o0, o1, o2, o3, _) => match iterO partL_s4C many (o0, o1, o2, o3, ()) with
   | none => none
   | some r => match r with
    | .inl (o4, o5, o6, o7, _) => match (iltR o7 o6) with
     | true => some (.inr (.inl (o4, o5, o7, ())))
     | false => match idxR o4 o7 with
      | none => none
      | some x8 => match idxR o4 o6 with
       | none => none
       | some x9 => match idxR o4 o6 with
        | none => none
        | some x10 => match idxR (dset o4 (dnat o6) (dget o4 (dnat o7) ([] : List (Int)))) o7 with
         | none => none
         | some x11 => some (.inl ((dset (dset o4 (dnat o6) (dget o4 (dnat o7) ([] : List (Int)))) (dnat o7) (dget o4 (dnat o6) ([] : List (Int)))), o5, (IntKind.wrap .i64 (o6 + 1)), (IntKind.wrap .i64 (o7 - 1)), ()))
    | .inr _ => none
  | .inr _ => none
theorem partL_s2_ceq : partL_s2 = partL_s2C := by
 funext v
 simp only [partL_s2, partL_s2C, idx_eq, iterL_eq, ilt_eqR, partL_s4_ceq, partL_s3_ceq] <;> rfl
def partL_s1C : (List (List Int) × Int × Int × Int × Unit) → Option ((List (List Int) × Int × Int × Int × Unit) ⊕ (List (List Int) × Int × Int × Int × Unit) ⊕ Unit) := fun (a0, a1, a2, a3, _) =>
 match (ileR a2 a3) with
 | true => match idxR a0 a3 with
  | none => none
  | some x0 => match idxR a0 a1 with
   | none => none
   | some x1 => match with1C ((dget a0 (dnat a3) ([] : List (Int))), (dget a0 (dnat a1) ([] : List (Int))), ()) with
    | none => none
    | some (y2, _) => match (!(iltR y2 0)) with
     | true => some (.inl (a0, a1, a2, (IntKind.wrap .i64 (a3 - 1)), ()))
     | false => some (.inr (.inl (a0, a1, a2, a3, ())))
 | false => some (.inr (.inl (a0, a1, a2, a3, ())))
theorem partL_s1_ceq : partL_s1 = partL_s1C := by
 funext v
 simp only [partL_s1, partL_s1C, idx_eq, ilt_eqR, ile_eqR, with1_ceq] <;> rfl
def partL_s0C : (List (List Int) × Int × Int × Int × Unit) → Option ((List (List Int) × Int × Int × Int × Unit) ⊕ (List (List Int) × Int × Int × Int × Unit) ⊕ Unit) := fun (a0, a1, a2, a3, _) =>
 match (ileR a2 a3) with
 | true => match idxR a0 a2 with
  | none => none
  | some x0 => match idxR a0 a1 with
   | none => none
   | some x1 => match with1C ((dget a0 (dnat a2) ([] : List (Int))), (dget a0 (dnat a1) ([] : List (Int))), ()) with
    | none => none
    | some (y2, _) => match (iltR y2 0) with
     | true => some (.inl (a0, a1, (IntKind.wrap .i64 (a2 + 1)), a3, ()))
     | false => some (.inr (.inl (a0, a1, a2, a3, ())))
 | false => some (.inr (.inl (a0, a1, a2, a3, ())))
theorem partL_s0_ceq : partL_s0 = partL_s0C := by
 funext v
 simp only [partL_s0, partL_s0C, idx_eq, ilt_eqR, ile_eqR, with1_ceq] <;> rfl
def partL_dC : (List (List Int) × Int × Int × Int × Unit) → Option ((List (List Int) × Int × Bool × Unit)) := fun (a0, a1, a2, a3, _) =>
 match idxR a0 a3 with
 | none => none
 | some x0 => match idxR a0 a1 with
  | none => none
  | some x1 => match idxR a0 a1 with
   | none => none
   | some x2 => match idxR (dset a0 (dnat a1) (dget a0 (dnat a3) ([] : List (Int)))) a3 with
    | none => none
    | some x3 => match iterO partL_s0C many ((dset (dset a0 (dnat a1) (dget a0 (dnat a3) ([] : List (Int)))) (dnat a3) (dget a0 (dnat a1) ([] : List (Int)))), a1, (IntKind.wrap .i64 (a1 + 1)), (IntKind.wrap .i64 (a2 - 1)), ()) with
     | none => none
     | some r => match r with
      | .inl (o4, o5, o6, o7, _) => match iterO partL_s1C many (o4, o5, o6, o7, ()) with
       | none => none
       | some r => match r with
        | .inl (o8, o9, o10, o11, _) => match (iltR o11 o10) with
         | true => match idxR o8 o9 with
          | none => none
          | some x12 => match idxR o8 o11 with
           | none => none
           | some x13 => match idxR o8 o11 with
            | none => none
            | some x14 => match idxR (dset o8 (dnat o11) (dget o8 (dnat o9) ([] : List (Int)))) o9 with
             | none => none
             | some x15 => some ((dset (dset o8 (dnat o11) (dget o8 (dnat o9) ([] : List (Int)))) (dnat o9) (dget o8 (dnat o11) ([] : List (Int)))), o11, true, ())
         | false => match idxR o8 o11 with
          | none => none
          | some x16 => match idxR o8 o10 with
           | none => none
           | some x17 => match idxR o8 o10 with
            | none => none
            | some x18 => match idxR (dset o8 (dnat o10) (dget o8 (dnat o11) ([] : List (Int)))) o11 with
             | none => none
             | some x19 => match iterO partL_s2C many ((dset (dset o8 (dnat o10) (dget o8 (dnat o11) ([] : List (Int)))) (dnat o11) (dget o8 (dnat o10) ([] : List (Int)))), o9, (IntKind.wrap .i64 (o10 + 1)), (IntKind.wrap .i64 (o11 - 1)), ()) with
              | none => none
              | some r => match r with
               | .inl (o20, o21, o22, _) => match idxR o20 o21 with
                | none => none
                | some x23 => match idxR o20 o22 with
                 | none => none
                 | some x24 => match idxR o20 o22 with
                  | none => none
                  | some x25 => match idxR (dset o20 (dnat o22) (dget o20 (dnat o21) ([] : List (Int)))) o21 with
                   | none => none
                   | some x26 => some ((dset (dset o20 (dnat o22) (dget o20 (dnat o21) ([] : List (Int)))) (dnat o21) (dget o20 (dnat o22) ([] : List (Int)))), o22, false, ())
               | .inr _ => none
        | .inr _ => none
      | .inr _ => none
theorem partL_d_ceq : partL_d = partL_dC := by
 funext v
 simp only [partL_d, partL_dC, idx_eq, iterL_eq, ilt_eqR, partL_s2_ceq, partL_s1_ceq, partL_s0_ceq] <;> rfl
def partLC (v : denL (leaves partL_i)) : Option (denL (leaves partL_o)) := partL_dC v
theorem partL_ceq : partL = partLC := by
 funext v
 rw [partL_eq, partL_d_ceq]; rfl
end
end Go.Pev
end
