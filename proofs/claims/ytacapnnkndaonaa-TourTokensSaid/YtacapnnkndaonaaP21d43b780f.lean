/- A part of the proofs of this seat: G18M3 G18M4 G18M5 G18M Pln PlnB. -/
import Derived.Test.YtacapnnkndaonaaP53e1c1dfcc
import Derived.IntWalk
import Derived.Sort.AssemblyPlain
set_option linter.unusedVariables false
set_option linter.unusedSimpArgs false
set_option linter.unusedSectionVars false
section
/- The models of functions: what they compute, as plain functions of leaves; each twice: locked, and to compute with (C). Printed by a program. -/
namespace Go.Pev
set_option maxRecDepth 100000
noncomputable section
attribute [local irreducible] fitsR fitsIR idxR sublR iltR ileR ieqR quoR remR shlR shrR cloneR iterO many IntKind.wrap dlen dset dget dapp dtake dcut drep dnat dclear imin imax lookupM storeM
-- slices.insertionSortCmpFunc[[]int]
abbrev insL_i : Items := [(.tmp 0, .own 62 (.slice (.int .i64))), (.tmp 1, .dat (.int .i64)), (.tmp 2, .dat (.int .i64)), (.tmp 3, .clo 99 [])]
abbrev insL_o : Items := [(.obj 0, .own 62 (.slice (.int .i64)))]
abbrev insL_r : List RS := []
abbrev insL_i1 : Items := [(.obj 0, .own 62 (.slice (.int .i64))), (.tmp 0, .own' 0), (.tmp 1, .dat (.int .i64)), (.tmp 2, .dat (.int .i64)), (.tmp 3, .clo 99 []), (.tmp 8, .dat (.int .i64)), (.tmp 9, .dat (.int .i64))]
abbrev insL_o1 : Outs := [(.exit 2, [(.obj 0, .own 62 (.slice (.int .i64))), (.tmp 0, .own' 0), (.tmp 1, .dat (.int .i64)), (.tmp 2, .dat (.int .i64)), (.tmp 3, .clo 99 []), (.tmp 8, .dat (.int .i64))])]
def insL_s1 : (List (List Int) × Int × Int × Int × Int × Unit) → Option ((List (List Int) × Int × Int × Int × Int × Unit) ⊕ (List (List Int) × Int × Int × Int × Unit) ⊕ Unit) := fun (a0, a1, a2, a3, a4, _) =>
  match (ilt a1 a4) with
  | true => match idx a0 a4 with
    | none => none
    | some x0 => match idx a0 (IntKind.wrap .i64 (a4 - (1 : Int))) with
      | none => none
      | some x1 => match with1 ((dget a0 (dnat a4) ([] : List (Int))), (dget a0 (dnat (IntKind.wrap .i64 (a4 - (1 : Int)))) ([] : List (Int))), ()) with
        | none => none
        | some (y2, _) => match (ilt y2 (0 : Int)) with
          | true => match idx a0 (IntKind.wrap .i64 (a4 - (1 : Int))) with
            | none => none
            | some x3 => match idx a0 a4 with
              | none => none
              | some x4 => match idx a0 a4 with
                | none => none
                | some x5 => match idx (dset a0 (dnat a4) (dget a0 (dnat (IntKind.wrap .i64 (a4 - (1 : Int)))) ([] : List (Int)))) (IntKind.wrap .i64 (a4 - (1 : Int))) with
                  | none => none
                  | some x6 => some (.inl ((dset (dset a0 (dnat a4) (dget a0 (dnat (IntKind.wrap .i64 (a4 - (1 : Int)))) ([] : List (Int)))) (dnat (IntKind.wrap .i64 (a4 - (1 : Int)))) (dget a0 (dnat a4) ([] : List (Int)))), a1, a2, a3, (IntKind.wrap .i64 (a4 - (1 : Int))), ()))
          | false => some (.inr (.inl (a0, a1, a2, a3, ())))
  | false => some (.inr (.inl (a0, a1, a2, a3, ())))
abbrev insL_i0 : Items := [(.obj 0, .own 62 (.slice (.int .i64))), (.tmp 0, .own' 0), (.tmp 1, .dat (.int .i64)), (.tmp 2, .dat (.int .i64)), (.tmp 3, .clo 99 []), (.tmp 8, .dat (.int .i64))]
abbrev insL_o0 : Outs := [(.exit 0, [(.obj 0, .own 62 (.slice (.int .i64)))])]
def insL_s0 : (List (List Int) × Int × Int × Int × Unit) → Option ((List (List Int) × Int × Int × Int × Unit) ⊕ (List (List Int) × Unit) ⊕ Unit) := fun (a0, a1, a2, a3, _) =>
  match (ilt a3 a2) with
  | true => match iterL insL_s1 many (a0, a1, a2, a3, a3, ()) with
    | none => none
    | some r => match r with
      | .inl (o0, o1, o2, o3, _) => some (.inl (o0, o1, o2, (IntKind.wrap .i64 (o3 + (1 : Int))), ()))
      | .inr _ => none
  | false => some (.inr (.inl (a0, ())))
def insL_d : (List (List Int) × Int × Int × Unit) → Option ((List (List Int) × Unit)) := fun (a0, a1, a2, _) =>
  match iterL insL_s0 many (a0, a1, a2, (IntKind.wrap .i64 (a1 + (1 : Int))), ()) with
  | none => none
  | some r => match r with
    | .inl (o0, _) => some (o0, ())
    | .inr _ => none
def insL (v : (List (List Int) × Int × Int × Unit)) : Option ((List (List Int) × Unit)) := lock (insL_d v)
theorem insL_eq (v : (List (List Int) × Int × Int × Unit)) : insL v = insL_d v := lock_eq _
def insL_s1C : (List (List Int) × Int × Int × Int × Int × Unit) → Option ((List (List Int) × Int × Int × Int × Int × Unit) ⊕ (List (List Int) × Int × Int × Int × Unit) ⊕ Unit) := fun (a0, a1, a2, a3, a4, _) =>
  match (iltR a1 a4) with
  | true => match idxR a0 a4 with
    | none => none
    | some x0 => match idxR a0 (IntKind.wrap .i64 (a4 - (1 : Int))) with
      | none => none
      | some x1 => match with1C ((dget a0 (dnat a4) ([] : List (Int))), (dget a0 (dnat (IntKind.wrap .i64 (a4 - (1 : Int)))) ([] : List (Int))), ()) with
        | none => none
        | some (y2, _) => match (iltR y2 (0 : Int)) with
          | true => match idxR a0 (IntKind.wrap .i64 (a4 - (1 : Int))) with
            | none => none
            | some x3 => match idxR a0 a4 with
              | none => none
              | some x4 => match idxR a0 a4 with
                | none => none
                | some x5 => match idxR (dset a0 (dnat a4) (dget a0 (dnat (IntKind.wrap .i64 (a4 - (1 : Int)))) ([] : List (Int)))) (IntKind.wrap .i64 (a4 - (1 : Int))) with
                  | none => none
                  | some x6 => some (.inl ((dset (dset a0 (dnat a4) (dget a0 (dnat (IntKind.wrap .i64 (a4 - (1 : Int)))) ([] : List (Int)))) (dnat (IntKind.wrap .i64 (a4 - (1 : Int)))) (dget a0 (dnat a4) ([] : List (Int)))), a1, a2, a3, (IntKind.wrap .i64 (a4 - (1 : Int))), ()))
          | false => some (.inr (.inl (a0, a1, a2, a3, ())))
  | false => some (.inr (.inl (a0, a1, a2, a3, ())))

theorem insL_s1_ceq : insL_s1 = insL_s1C := by
  funext v
  simp only [insL_s1, insL_s1C, idx_eq, ilt_eqR, with1_ceq] <;> rfl

def insL_s0C : (List (List Int) × Int × Int × Int × Unit) → Option ((List (List Int) × Int × Int × Int × Unit) ⊕ (List (List Int) × Unit) ⊕ Unit) := fun (a0, a1, a2, a3, _) =>
  match (iltR a3 a2) with
  | true => match iterO insL_s1C many (a0, a1, a2, a3, a3, ()) with
    | none => none
    | some r => match r with
      | .inl (o0, o1, o2, o3, _) => some (.inl (o0, o1, o2, (IntKind.wrap .i64 (o3 + (1 : Int))), ()))
      | .inr _ => none
  | false => some (.inr (.inl (a0, ())))

theorem insL_s0_ceq : insL_s0 = insL_s0C := by
  funext v
  simp only [insL_s0, insL_s0C, iterL_eq, ilt_eqR, insL_s1_ceq] <;> rfl

def insL_dC : (List (List Int) × Int × Int × Unit) → Option ((List (List Int) × Unit)) := fun (a0, a1, a2, _) =>
  match iterO insL_s0C many (a0, a1, a2, (IntKind.wrap .i64 (a1 + (1 : Int))), ()) with
  | none => none
  | some r => match r with
    | .inl (o0, _) => some (o0, ())
    | .inr _ => none

theorem insL_d_ceq : insL_d = insL_dC := by
  funext v
  simp only [insL_d, insL_dC, iterL_eq, insL_s0_ceq] <;> rfl

def insLC (v : denL (leaves insL_i)) : Option (denL (leaves insL_o)) := insL_dC v

theorem insL_ceq : insL = insLC := by
  funext v
  rw [insL_eq, insL_d_ceq]; rfl


-- slices.siftDownCmpFunc[[]int]
abbrev siftL_i : Items := [(.tmp 0, .own 62 (.slice (.int .i64))), (.tmp 1, .dat (.int .i64)), (.tmp 2, .dat (.int .i64)), (.tmp 3, .dat (.int .i64)), (.tmp 4, .clo 99 [])]
abbrev siftL_o : Items := [(.obj 0, .own 62 (.slice (.int .i64)))]
abbrev siftL_r : List RS := []
abbrev siftL_i0 : Items := [(.obj 0, .own 62 (.slice (.int .i64))), (.tmp 0, .own' 0), (.tmp 2, .dat (.int .i64)), (.tmp 3, .dat (.int .i64)), (.tmp 4, .clo 99 []), (.tmp 10, .dat (.int .i64))]
abbrev siftL_o0 : Outs := [(.exit 0, [(.obj 0, .own 62 (.slice (.int .i64)))]), (.ret, [(.obj 0, .own 62 (.slice (.int .i64)))])]
def siftL_s0 : (List (List Int) × Int × Int × Int × Unit) → Option ((List (List Int) × Int × Int × Int × Unit) ⊕ (List (List Int) × Unit) ⊕ (List (List Int) × Unit) ⊕ Unit) := fun (a0, a1, a2, a3, _) =>
  match (ile a1 (IntKind.wrap .i64 ((IntKind.wrap .i64 ((2 : Int) * a3)) + (1 : Int)))) with
  | true => some (.inr (.inl (a0, ())))
  | false => match (ilt (IntKind.wrap .i64 ((IntKind.wrap .i64 ((IntKind.wrap .i64 ((2 : Int) * a3)) + (1 : Int))) + (1 : Int))) a1) with
    | true => match idx a0 (IntKind.wrap .i64 (a2 + (IntKind.wrap .i64 ((IntKind.wrap .i64 ((2 : Int) * a3)) + (1 : Int))))) with
      | none => none
      | some x0 => match idx a0 (IntKind.wrap .i64 ((IntKind.wrap .i64 (a2 + (IntKind.wrap .i64 ((IntKind.wrap .i64 ((2 : Int) * a3)) + (1 : Int))))) + (1 : Int))) with
        | none => none
        | some x1 => match with1 ((dget a0 (dnat (IntKind.wrap .i64 (a2 + (IntKind.wrap .i64 ((IntKind.wrap .i64 ((2 : Int) * a3)) + (1 : Int)))))) ([] : List (Int))), (dget a0 (dnat (IntKind.wrap .i64 ((IntKind.wrap .i64 (a2 + (IntKind.wrap .i64 ((IntKind.wrap .i64 ((2 : Int) * a3)) + (1 : Int))))) + (1 : Int)))) ([] : List (Int))), ()) with
          | none => none
          | some (y2, _) => match (ilt y2 (0 : Int)) with
            | true => match idx a0 (IntKind.wrap .i64 (a2 + a3)) with
              | none => none
              | some x3 => match idx a0 (IntKind.wrap .i64 (a2 + (IntKind.wrap .i64 ((IntKind.wrap .i64 ((IntKind.wrap .i64 ((2 : Int) * a3)) + (1 : Int))) + (1 : Int))))) with
                | none => none
                | some x4 => match with1 ((dget a0 (dnat (IntKind.wrap .i64 (a2 + a3))) ([] : List (Int))), (dget a0 (dnat (IntKind.wrap .i64 (a2 + (IntKind.wrap .i64 ((IntKind.wrap .i64 ((IntKind.wrap .i64 ((2 : Int) * a3)) + (1 : Int))) + (1 : Int)))))) ([] : List (Int))), ()) with
                  | none => none
                  | some (y5, _) => match (!(ilt y5 (0 : Int))) with
                    | true => some (.inr (.inr (.inl (a0, ()))))
                    | false => match idx a0 (IntKind.wrap .i64 (a2 + (IntKind.wrap .i64 ((IntKind.wrap .i64 ((IntKind.wrap .i64 ((2 : Int) * a3)) + (1 : Int))) + (1 : Int))))) with
                      | none => none
                      | some x6 => match idx a0 (IntKind.wrap .i64 (a2 + a3)) with
                        | none => none
                        | some x7 => match idx a0 (IntKind.wrap .i64 (a2 + a3)) with
                          | none => none
                          | some x8 => match idx (dset a0 (dnat (IntKind.wrap .i64 (a2 + a3))) (dget a0 (dnat (IntKind.wrap .i64 (a2 + (IntKind.wrap .i64 ((IntKind.wrap .i64 ((IntKind.wrap .i64 ((2 : Int) * a3)) + (1 : Int))) + (1 : Int)))))) ([] : List (Int)))) (IntKind.wrap .i64 (a2 + (IntKind.wrap .i64 ((IntKind.wrap .i64 ((IntKind.wrap .i64 ((2 : Int) * a3)) + (1 : Int))) + (1 : Int))))) with
                            | none => none
                            | some x9 => some (.inl ((dset (dset a0 (dnat (IntKind.wrap .i64 (a2 + a3))) (dget a0 (dnat (IntKind.wrap .i64 (a2 + (IntKind.wrap .i64 ((IntKind.wrap .i64 ((IntKind.wrap .i64 ((2 : Int) * a3)) + (1 : Int))) + (1 : Int)))))) ([] : List (Int)))) (dnat (IntKind.wrap .i64 (a2 + (IntKind.wrap .i64 ((IntKind.wrap .i64 ((IntKind.wrap .i64 ((2 : Int) * a3)) + (1 : Int))) + (1 : Int)))))) (dget a0 (dnat (IntKind.wrap .i64 (a2 + a3))) ([] : List (Int)))), a1, a2, (IntKind.wrap .i64 ((IntKind.wrap .i64 ((IntKind.wrap .i64 ((2 : Int) * a3)) + (1 : Int))) + (1 : Int))), ()))
            | false => match idx a0 (IntKind.wrap .i64 (a2 + a3)) with
              | none => none
              | some x10 => match idx a0 (IntKind.wrap .i64 (a2 + (IntKind.wrap .i64 ((IntKind.wrap .i64 ((2 : Int) * a3)) + (1 : Int))))) with
                | none => none
                | some x11 => match with1 ((dget a0 (dnat (IntKind.wrap .i64 (a2 + a3))) ([] : List (Int))), (dget a0 (dnat (IntKind.wrap .i64 (a2 + (IntKind.wrap .i64 ((IntKind.wrap .i64 ((2 : Int) * a3)) + (1 : Int)))))) ([] : List (Int))), ()) with
                  | none => none
                  | some (y12, _) => match (!(ilt y12 (0 : Int))) with
                    | true => some (.inr (.inr (.inl (a0, ()))))
                    | false => match idx a0 (IntKind.wrap .i64 (a2 + (IntKind.wrap .i64 ((IntKind.wrap .i64 ((2 : Int) * a3)) + (1 : Int))))) with
                      | none => none
                      | some x13 => match idx a0 (IntKind.wrap .i64 (a2 + a3)) with
                        | none => none
                        | some x14 => match idx a0 (IntKind.wrap .i64 (a2 + a3)) with
                          | none => none
                          | some x15 => match idx (dset a0 (dnat (IntKind.wrap .i64 (a2 + a3))) (dget a0 (dnat (IntKind.wrap .i64 (a2 + (IntKind.wrap .i64 ((IntKind.wrap .i64 ((2 : Int) * a3)) + (1 : Int)))))) ([] : List (Int)))) (IntKind.wrap .i64 (a2 + (IntKind.wrap .i64 ((IntKind.wrap .i64 ((2 : Int) * a3)) + (1 : Int))))) with
                            | none => none
                            | some x16 => some (.inl ((dset (dset a0 (dnat (IntKind.wrap .i64 (a2 + a3))) (dget a0 (dnat (IntKind.wrap .i64 (a2 + (IntKind.wrap .i64 ((IntKind.wrap .i64 ((2 : Int) * a3)) + (1 : Int)))))) ([] : List (Int)))) (dnat (IntKind.wrap .i64 (a2 + (IntKind.wrap .i64 ((IntKind.wrap .i64 ((2 : Int) * a3)) + (1 : Int)))))) (dget a0 (dnat (IntKind.wrap .i64 (a2 + a3))) ([] : List (Int)))), a1, a2, (IntKind.wrap .i64 ((IntKind.wrap .i64 ((2 : Int) * a3)) + (1 : Int))), ()))
    | false => match idx a0 (IntKind.wrap .i64 (a2 + a3)) with
      | none => none
      | some x17 => match idx a0 (IntKind.wrap .i64 (a2 + (IntKind.wrap .i64 ((IntKind.wrap .i64 ((2 : Int) * a3)) + (1 : Int))))) with
        | none => none
        | some x18 => match with1 ((dget a0 (dnat (IntKind.wrap .i64 (a2 + a3))) ([] : List (Int))), (dget a0 (dnat (IntKind.wrap .i64 (a2 + (IntKind.wrap .i64 ((IntKind.wrap .i64 ((2 : Int) * a3)) + (1 : Int)))))) ([] : List (Int))), ()) with
          | none => none
          | some (y19, _) => match (!(ilt y19 (0 : Int))) with
            | true => some (.inr (.inr (.inl (a0, ()))))
            | false => match idx a0 (IntKind.wrap .i64 (a2 + (IntKind.wrap .i64 ((IntKind.wrap .i64 ((2 : Int) * a3)) + (1 : Int))))) with
              | none => none
              | some x20 => match idx a0 (IntKind.wrap .i64 (a2 + a3)) with
                | none => none
                | some x21 => match idx a0 (IntKind.wrap .i64 (a2 + a3)) with
                  | none => none
                  | some x22 => match idx (dset a0 (dnat (IntKind.wrap .i64 (a2 + a3))) (dget a0 (dnat (IntKind.wrap .i64 (a2 + (IntKind.wrap .i64 ((IntKind.wrap .i64 ((2 : Int) * a3)) + (1 : Int)))))) ([] : List (Int)))) (IntKind.wrap .i64 (a2 + (IntKind.wrap .i64 ((IntKind.wrap .i64 ((2 : Int) * a3)) + (1 : Int))))) with
                    | none => none
                    | some x23 => some (.inl ((dset (dset a0 (dnat (IntKind.wrap .i64 (a2 + a3))) (dget a0 (dnat (IntKind.wrap .i64 (a2 + (IntKind.wrap .i64 ((IntKind.wrap .i64 ((2 : Int) * a3)) + (1 : Int)))))) ([] : List (Int)))) (dnat (IntKind.wrap .i64 (a2 + (IntKind.wrap .i64 ((IntKind.wrap .i64 ((2 : Int) * a3)) + (1 : Int)))))) (dget a0 (dnat (IntKind.wrap .i64 (a2 + a3))) ([] : List (Int)))), a1, a2, (IntKind.wrap .i64 ((IntKind.wrap .i64 ((2 : Int) * a3)) + (1 : Int))), ()))
def siftL_d : (List (List Int) × Int × Int × Int × Unit) → Option ((List (List Int) × Unit)) := fun (a0, a1, a2, a3, _) =>
  match iterL siftL_s0 many (a0, a2, a3, a1, ()) with
  | none => none
  | some r => match r with
    | .inl (o0, _) => some (o0, ())
    | .inr r => match r with
      | .inl (o1, _) => some (o1, ())
      | .inr _ => none
def siftL (v : (List (List Int) × Int × Int × Int × Unit)) : Option ((List (List Int) × Unit)) := lock (siftL_d v)
theorem siftL_eq (v : (List (List Int) × Int × Int × Int × Unit)) : siftL v = siftL_d v := lock_eq _
def siftL_s0C : (List (List Int) × Int × Int × Int × Unit) → Option ((List (List Int) × Int × Int × Int × Unit) ⊕ (List (List Int) × Unit) ⊕ (List (List Int) × Unit) ⊕ Unit) := fun (a0, a1, a2, a3, _) =>
  match (ileR a1 (IntKind.wrap .i64 ((IntKind.wrap .i64 ((2 : Int) * a3)) + (1 : Int)))) with
  | true => some (.inr (.inl (a0, ())))
  | false => match (iltR (IntKind.wrap .i64 ((IntKind.wrap .i64 ((IntKind.wrap .i64 ((2 : Int) * a3)) + (1 : Int))) + (1 : Int))) a1) with
    | true => match idxR a0 (IntKind.wrap .i64 (a2 + (IntKind.wrap .i64 ((IntKind.wrap .i64 ((2 : Int) * a3)) + (1 : Int))))) with
      | none => none
      | some x0 => match idxR a0 (IntKind.wrap .i64 ((IntKind.wrap .i64 (a2 + (IntKind.wrap .i64 ((IntKind.wrap .i64 ((2 : Int) * a3)) + (1 : Int))))) + (1 : Int))) with
        | none => none
        | some x1 => match with1C ((dget a0 (dnat (IntKind.wrap .i64 (a2 + (IntKind.wrap .i64 ((IntKind.wrap .i64 ((2 : Int) * a3)) + (1 : Int)))))) ([] : List (Int))), (dget a0 (dnat (IntKind.wrap .i64 ((IntKind.wrap .i64 (a2 + (IntKind.wrap .i64 ((IntKind.wrap .i64 ((2 : Int) * a3)) + (1 : Int))))) + (1 : Int)))) ([] : List (Int))), ()) with
          | none => none
          | some (y2, _) => match (iltR y2 (0 : Int)) with
            | true => match idxR a0 (IntKind.wrap .i64 (a2 + a3)) with
              | none => none
              | some x3 => match idxR a0 (IntKind.wrap .i64 (a2 + (IntKind.wrap .i64 ((IntKind.wrap .i64 ((IntKind.wrap .i64 ((2 : Int) * a3)) + (1 : Int))) + (1 : Int))))) with
                | none => none
                | some x4 => match with1C ((dget a0 (dnat (IntKind.wrap .i64 (a2 + a3))) ([] : List (Int))), (dget a0 (dnat (IntKind.wrap .i64 (a2 + (IntKind.wrap .i64 ((IntKind.wrap .i64 ((IntKind.wrap .i64 ((2 : Int) * a3)) + (1 : Int))) + (1 : Int)))))) ([] : List (Int))), ()) with
                  | none => none
                  | some (y5, _) => match (!(iltR y5 (0 : Int))) with
                    | true => some (.inr (.inr (.inl (a0, ()))))
                    | false => match idxR a0 (IntKind.wrap .i64 (a2 + (IntKind.wrap .i64 ((IntKind.wrap .i64 ((IntKind.wrap .i64 ((2 : Int) * a3)) + (1 : Int))) + (1 : Int))))) with
                      | none => none
                      | some x6 => match idxR a0 (IntKind.wrap .i64 (a2 + a3)) with
                        | none => none
                        | some x7 => match idxR a0 (IntKind.wrap .i64 (a2 + a3)) with
                          | none => none
                          | some x8 => match idxR (dset a0 (dnat (IntKind.wrap .i64 (a2 + a3))) (dget a0 (dnat (IntKind.wrap .i64 (a2 + (IntKind.wrap .i64 ((IntKind.wrap .i64 ((IntKind.wrap .i64 ((2 : Int) * a3)) + (1 : Int))) + (1 : Int)))))) ([] : List (Int)))) (IntKind.wrap .i64 (a2 + (IntKind.wrap .i64 ((IntKind.wrap .i64 ((IntKind.wrap .i64 ((2 : Int) * a3)) + (1 : Int))) + (1 : Int))))) with
                            | none => none
                            | some x9 => some (.inl ((dset (dset a0 (dnat (IntKind.wrap .i64 (a2 + a3))) (dget a0 (dnat (IntKind.wrap .i64 (a2 + (IntKind.wrap .i64 ((IntKind.wrap .i64 ((IntKind.wrap .i64 ((2 : Int) * a3)) + (1 : Int))) + (1 : Int)))))) ([] : List (Int)))) (dnat (IntKind.wrap .i64 (a2 + (IntKind.wrap .i64 ((IntKind.wrap .i64 ((IntKind.wrap .i64 ((2 : Int) * a3)) + (1 : Int))) + (1 : Int)))))) (dget a0 (dnat (IntKind.wrap .i64 (a2 + a3))) ([] : List (Int)))), a1, a2, (IntKind.wrap .i64 ((IntKind.wrap .i64 ((IntKind.wrap .i64 ((2 : Int) * a3)) + (1 : Int))) + (1 : Int))), ()))
            | false => match idxR a0 (IntKind.wrap .i64 (a2 + a3)) with
              | none => none
              | some x10 => match idxR a0 (IntKind.wrap .i64 (a2 + (IntKind.wrap .i64 ((IntKind.wrap .i64 ((2 : Int) * a3)) + (1 : Int))))) with
                | none => none
                | some x11 => match with1C ((dget a0 (dnat (IntKind.wrap .i64 (a2 + a3))) ([] : List (Int))), (dget a0 (dnat (IntKind.wrap .i64 (a2 + (IntKind.wrap .i64 ((IntKind.wrap .i64 ((2 : Int) * a3)) + (1 : Int)))))) ([] : List (Int))), ()) with
                  | none => none
                  | some (y12, _) => match (!(iltR y12 (0 : Int))) with
                    | true => some (.inr (.inr (.inl (a0, ()))))
                    | false => match idxR a0 (IntKind.wrap .i64 (a2 + (IntKind.wrap .i64 ((IntKind.wrap .i64 ((2 : Int) * a3)) + (1 : Int))))) with
                      | none => none
                      | some x13 => match idxR a0 (IntKind.wrap .i64 (a2 + a3)) with
                        | none => none
                        | some x14 => match idxR a0 (IntKind.wrap .i64 (a2 + a3)) with
                          | none => none
                          | some x15 => match idxR (dset a0 (dnat (IntKind.wrap .i64 (a2 + a3))) (dget a0 (dnat (IntKind.wrap .i64 (a2 + (IntKind.wrap .i64 ((IntKind.wrap .i64 ((2 : Int) * a3)) + (1 : Int)))))) ([] : List (Int)))) (IntKind.wrap .i64 (a2 + (IntKind.wrap .i64 ((IntKind.wrap .i64 ((2 : Int) * a3)) + (1 : Int))))) with
                            | none => none
                            | some x16 => some (.inl ((dset (dset a0 (dnat (IntKind.wrap .i64 (a2 + a3))) (dget a0 (dnat (IntKind.wrap .i64 (a2 + (IntKind.wrap .i64 ((IntKind.wrap .i64 ((2 : Int) * a3)) + (1 : Int)))))) ([] : List (Int)))) (dnat (IntKind.wrap .i64 (a2 + (IntKind.wrap .i64 ((IntKind.wrap .i64 ((2 : Int) * a3)) + (1 : Int)))))) (dget a0 (dnat (IntKind.wrap .i64 (a2 + a3))) ([] : List (Int)))), a1, a2, (IntKind.wrap .i64 ((IntKind.wrap .i64 ((2 : Int) * a3)) + (1 : Int))), ()))
    | false => match idxR a0 (IntKind.wrap .i64 (a2 + a3)) with
      | none => none
      | some x17 => match idxR a0 (IntKind.wrap .i64 (a2 + (IntKind.wrap .i64 ((IntKind.wrap .i64 ((2 : Int) * a3)) + (1 : Int))))) with
        | none => none
        | some x18 => match with1C ((dget a0 (dnat (IntKind.wrap .i64 (a2 + a3))) ([] : List (Int))), (dget a0 (dnat (IntKind.wrap .i64 (a2 + (IntKind.wrap .i64 ((IntKind.wrap .i64 ((2 : Int) * a3)) + (1 : Int)))))) ([] : List (Int))), ()) with
          | none => none
          | some (y19, _) => match (!(iltR y19 (0 : Int))) with
            | true => some (.inr (.inr (.inl (a0, ()))))
            | false => match idxR a0 (IntKind.wrap .i64 (a2 + (IntKind.wrap .i64 ((IntKind.wrap .i64 ((2 : Int) * a3)) + (1 : Int))))) with
              | none => none
              | some x20 => match idxR a0 (IntKind.wrap .i64 (a2 + a3)) with
                | none => none
                | some x21 => match idxR a0 (IntKind.wrap .i64 (a2 + a3)) with
                  | none => none
                  | some x22 => match idxR (dset a0 (dnat (IntKind.wrap .i64 (a2 + a3))) (dget a0 (dnat (IntKind.wrap .i64 (a2 + (IntKind.wrap .i64 ((IntKind.wrap .i64 ((2 : Int) * a3)) + (1 : Int)))))) ([] : List (Int)))) (IntKind.wrap .i64 (a2 + (IntKind.wrap .i64 ((IntKind.wrap .i64 ((2 : Int) * a3)) + (1 : Int))))) with
                    | none => none
                    | some x23 => some (.inl ((dset (dset a0 (dnat (IntKind.wrap .i64 (a2 + a3))) (dget a0 (dnat (IntKind.wrap .i64 (a2 + (IntKind.wrap .i64 ((IntKind.wrap .i64 ((2 : Int) * a3)) + (1 : Int)))))) ([] : List (Int)))) (dnat (IntKind.wrap .i64 (a2 + (IntKind.wrap .i64 ((IntKind.wrap .i64 ((2 : Int) * a3)) + (1 : Int)))))) (dget a0 (dnat (IntKind.wrap .i64 (a2 + a3))) ([] : List (Int)))), a1, a2, (IntKind.wrap .i64 ((IntKind.wrap .i64 ((2 : Int) * a3)) + (1 : Int))), ()))

theorem siftL_s0_ceq : siftL_s0 = siftL_s0C := by
  funext v
  simp only [siftL_s0, siftL_s0C, idx_eq, ilt_eqR, ile_eqR, with1_ceq] <;> rfl

def siftL_dC : (List (List Int) × Int × Int × Int × Unit) → Option ((List (List Int) × Unit)) := fun (a0, a1, a2, a3, _) =>
  match iterO siftL_s0C many (a0, a2, a3, a1, ()) with
  | none => none
  | some r => match r with
    | .inl (o0, _) => some (o0, ())
    | .inr r => match r with
      | .inl (o1, _) => some (o1, ())
      | .inr _ => none

theorem siftL_d_ceq : siftL_d = siftL_dC := by
  funext v
  simp only [siftL_d, siftL_dC, iterL_eq, siftL_s0_ceq] <;> rfl

def siftLC (v : denL (leaves siftL_i)) : Option (denL (leaves siftL_o)) := siftL_dC v

theorem siftL_ceq : siftL = siftLC := by
  funext v
  rw [siftL_eq, siftL_d_ceq]; rfl


-- slices.heapSortCmpFunc[[]int]
abbrev heapL_i : Items := [(.tmp 0, .own 62 (.slice (.int .i64))), (.tmp 1, .dat (.int .i64)), (.tmp 2, .dat (.int .i64)), (.tmp 3, .clo 99 [])]
abbrev heapL_o : Items := [(.obj 0, .own 62 (.slice (.int .i64)))]
abbrev heapL_r : List RS := []
abbrev heapL_i1 : Items := [(.obj 0, .own 62 (.slice (.int .i64))), (.tmp 0, .own' 0), (.tmp 3, .clo 99 []), (.tmp 8, .dat (.int .i64)), (.tmp 9, .dat (.int .i64)), (.tmp 12, .dat (.int .i64))]
abbrev heapL_o1 : Outs := [(.exit 2, [(.obj 0, .own 62 (.slice (.int .i64)))])]
def heapL_s1 : (List (List Int) × Int × Int × Int × Unit) → Option ((List (List Int) × Int × Int × Int × Unit) ⊕ (List (List Int) × Unit) ⊕ Unit) := fun (a0, a1, a2, a3, _) =>
  match (ile (0 : Int) a3) with
  | true => match idx a0 (IntKind.wrap .i64 (a1 + a3)) with
    | none => none
    | some x0 => match idx a0 a1 with
      | none => none
      | some x1 => match idx a0 a1 with
        | none => none
        | some x2 => match idx (dset a0 (dnat a1) (dget a0 (dnat (IntKind.wrap .i64 (a1 + a3))) ([] : List (Int)))) (IntKind.wrap .i64 (a1 + a3)) with
          | none => none
          | some x3 => match siftL ((dset (dset a0 (dnat a1) (dget a0 (dnat (IntKind.wrap .i64 (a1 + a3))) ([] : List (Int)))) (dnat (IntKind.wrap .i64 (a1 + a3))) (dget a0 (dnat a1) ([] : List (Int)))), a2, a3, a1, ()) with
            | none => none
            | some (y4, _) => some (.inl (y4, a1, a2, (IntKind.wrap .i64 (a3 - (1 : Int))), ()))
  | false => some (.inr (.inl (a0, ())))
abbrev heapL_i0 : Items := [(.obj 0, .own 62 (.slice (.int .i64))), (.tmp 0, .own' 0), (.tmp 3, .clo 99 []), (.tmp 8, .dat (.int .i64)), (.tmp 9, .dat (.int .i64)), (.tmp 10, .dat (.int .i64)), (.tmp 11, .dat (.int .i64))]
abbrev heapL_o0 : Outs := [(.exit 0, [(.obj 0, .own 62 (.slice (.int .i64))), (.tmp 0, .own' 0), (.tmp 3, .clo 99 []), (.tmp 8, .dat (.int .i64)), (.tmp 9, .dat (.int .i64)), (.tmp 10, .dat (.int .i64))])]
def heapL_s0 : (List (List Int) × Int × Int × Int × Int × Unit) → Option ((List (List Int) × Int × Int × Int × Int × Unit) ⊕ (List (List Int) × Int × Int × Int × Unit) ⊕ Unit) := fun (a0, a1, a2, a3, a4, _) =>
  match (ile (0 : Int) a4) with
  | true => match siftL (a0, a4, a3, a1, ()) with
    | none => none
    | some (y0, _) => some (.inl (y0, a1, a2, a3, (IntKind.wrap .i64 (a4 - (1 : Int))), ()))
  | false => some (.inr (.inl (a0, a1, a2, a3, ())))
def heapL_d : (List (List Int) × Int × Int × Unit) → Option ((List (List Int) × Unit)) := fun (a0, a1, a2, _) =>
  match quo? .i64 (IntKind.wrap .i64 ((IntKind.wrap .i64 (a2 - a1)) - (1 : Int))) (2 : Int) with
  | none => none
  | some x0 => match iterL heapL_s0 many (a0, a1, (0 : Int), (IntKind.wrap .i64 (a2 - a1)), x0, ()) with
    | none => none
    | some r => match r with
      | .inl (o1, o2, o3, o4, _) => match iterL heapL_s1 many (o1, o2, o3, (IntKind.wrap .i64 (o4 - (1 : Int))), ()) with
        | none => none
        | some r => match r with
          | .inl (o5, _) => some (o5, ())
          | .inr _ => none
      | .inr _ => none
def heapL (v : (List (List Int) × Int × Int × Unit)) : Option ((List (List Int) × Unit)) := lock (heapL_d v)
theorem heapL_eq (v : (List (List Int) × Int × Int × Unit)) : heapL v = heapL_d v := lock_eq _
def heapL_s1C : (List (List Int) × Int × Int × Int × Unit) → Option ((List (List Int) × Int × Int × Int × Unit) ⊕ (List (List Int) × Unit) ⊕ Unit) := fun (a0, a1, a2, a3, _) =>
  match (ileR (0 : Int) a3) with
  | true => match idxR a0 (IntKind.wrap .i64 (a1 + a3)) with
    | none => none
    | some x0 => match idxR a0 a1 with
      | none => none
      | some x1 => match idxR a0 a1 with
        | none => none
        | some x2 => match idxR (dset a0 (dnat a1) (dget a0 (dnat (IntKind.wrap .i64 (a1 + a3))) ([] : List (Int)))) (IntKind.wrap .i64 (a1 + a3)) with
          | none => none
          | some x3 => match siftLC ((dset (dset a0 (dnat a1) (dget a0 (dnat (IntKind.wrap .i64 (a1 + a3))) ([] : List (Int)))) (dnat (IntKind.wrap .i64 (a1 + a3))) (dget a0 (dnat a1) ([] : List (Int)))), a2, a3, a1, ()) with
            | none => none
            | some (y4, _) => some (.inl (y4, a1, a2, (IntKind.wrap .i64 (a3 - (1 : Int))), ()))
  | false => some (.inr (.inl (a0, ())))

theorem heapL_s1_ceq : heapL_s1 = heapL_s1C := by
  funext v
  simp only [heapL_s1, heapL_s1C, idx_eq, ile_eqR, siftL_ceq] <;> rfl

def heapL_s0C : (List (List Int) × Int × Int × Int × Int × Unit) → Option ((List (List Int) × Int × Int × Int × Int × Unit) ⊕ (List (List Int) × Int × Int × Int × Unit) ⊕ Unit) := fun (a0, a1, a2, a3, a4, _) =>
  match (ileR (0 : Int) a4) with
  | true => match siftLC (a0, a4, a3, a1, ()) with
    | none => none
    | some (y0, _) => some (.inl (y0, a1, a2, a3, (IntKind.wrap .i64 (a4 - (1 : Int))), ()))
  | false => some (.inr (.inl (a0, a1, a2, a3, ())))

theorem heapL_s0_ceq : heapL_s0 = heapL_s0C := by
  funext v
  simp only [heapL_s0, heapL_s0C, ile_eqR, siftL_ceq] <;> rfl

def heapL_dC : (List (List Int) × Int × Int × Unit) → Option ((List (List Int) × Unit)) := fun (a0, a1, a2, _) =>
  match quoR .i64 (IntKind.wrap .i64 ((IntKind.wrap .i64 (a2 - a1)) - (1 : Int))) (2 : Int) with
  | none => none
  | some x0 => match iterO heapL_s0C many (a0, a1, (0 : Int), (IntKind.wrap .i64 (a2 - a1)), x0, ()) with
    | none => none
    | some r => match r with
      | .inl (o1, o2, o3, o4, _) => match iterO heapL_s1C many (o1, o2, o3, (IntKind.wrap .i64 (o4 - (1 : Int))), ()) with
        | none => none
        | some r => match r with
          | .inl (o5, _) => some (o5, ())
          | .inr _ => none
      | .inr _ => none

theorem heapL_d_ceq : heapL_d = heapL_dC := by
  funext v
  simp only [heapL_d, heapL_dC, quo_eq, iterL_eq, heapL_s1_ceq, heapL_s0_ceq] <;> rfl

def heapLC (v : denL (leaves heapL_i)) : Option (denL (leaves heapL_o)) := heapL_dC v

theorem heapL_ceq : heapL = heapLC := by
  funext v
  rw [heapL_eq, heapL_d_ceq]; rfl


-- slices.breakPatternsCmpFunc[[]int]
abbrev breakL_i : Items := [(.tmp 0, .own 62 (.slice (.int .i64))), (.tmp 1, .dat (.int .i64)), (.tmp 2, .dat (.int .i64)), (.tmp 3, .clo 99 [])]
abbrev breakL_o : Items := [(.obj 0, .own 62 (.slice (.int .i64)))]
abbrev breakL_r : List RS := []
abbrev breakL_i0 : Items := [(.obj 0, .own 62 (.slice (.int .i64))), (.tmp 0, .own' 0), (.tmp 1, .dat (.int .i64)), (.tmp 8, .dat (.int .i64)), (.tmp 9, .box 1), (.cell 1 0, .dat (.int .u64)), (.tmp 10, .dat (.int .u64)), (.tmp 11, .dat (.int .i64))]
abbrev breakL_o0 : Outs := [(.exit 0, [(.obj 0, .own 62 (.slice (.int .i64)))])]
def breakL_s0 : (List (List Int) × Int × Int × Int × Int × Int × Unit) → Option ((List (List Int) × Int × Int × Int × Int × Int × Unit) ⊕ (List (List Int) × Unit) ⊕ Unit) := fun (a0, a1, a2, a3, a4, a5, _) =>
  match quo? .i64 a2 (4 : Int) with
  | none => none
  | some x0 => match (ile a5 (IntKind.wrap .i64 ((IntKind.wrap .i64 (a1 + (IntKind.wrap .i64 (x0 * (2 : Int))))) + (1 : Int)))) with
    | true => match xorNext (a3, ()) with
      | none => none
      | some (y1, y2, _) => match (ile a2 (IntKind.wrap .i64 (IntKind.wrap .u64 ((BitVec.ofInt (IntKind.bits .u64) y2 &&& BitVec.ofInt (IntKind.bits .u64) (IntKind.wrap .u64 (a4 - (1 : Int)))).toNat)))) with
        | true => match idx a0 (IntKind.wrap .i64 (a1 + (IntKind.wrap .i64 ((IntKind.wrap .i64 (IntKind.wrap .u64 ((BitVec.ofInt (IntKind.bits .u64) y2 &&& BitVec.ofInt (IntKind.bits .u64) (IntKind.wrap .u64 (a4 - (1 : Int)))).toNat))) - a2)))) with
          | none => none
          | some x3 => match idx a0 a5 with
            | none => none
            | some x4 => match idx a0 a5 with
              | none => none
              | some x5 => match idx (dset a0 (dnat a5) (dget a0 (dnat (IntKind.wrap .i64 (a1 + (IntKind.wrap .i64 ((IntKind.wrap .i64 (IntKind.wrap .u64 ((BitVec.ofInt (IntKind.bits .u64) y2 &&& BitVec.ofInt (IntKind.bits .u64) (IntKind.wrap .u64 (a4 - (1 : Int)))).toNat))) - a2))))) ([] : List (Int)))) (IntKind.wrap .i64 (a1 + (IntKind.wrap .i64 ((IntKind.wrap .i64 (IntKind.wrap .u64 ((BitVec.ofInt (IntKind.bits .u64) y2 &&& BitVec.ofInt (IntKind.bits .u64) (IntKind.wrap .u64 (a4 - (1 : Int)))).toNat))) - a2)))) with
                | none => none
                | some x6 => some (.inl ((dset (dset a0 (dnat a5) (dget a0 (dnat (IntKind.wrap .i64 (a1 + (IntKind.wrap .i64 ((IntKind.wrap .i64 (IntKind.wrap .u64 ((BitVec.ofInt (IntKind.bits .u64) y2 &&& BitVec.ofInt (IntKind.bits .u64) (IntKind.wrap .u64 (a4 - (1 : Int)))).toNat))) - a2))))) ([] : List (Int)))) (dnat (IntKind.wrap .i64 (a1 + (IntKind.wrap .i64 ((IntKind.wrap .i64 (IntKind.wrap .u64 ((BitVec.ofInt (IntKind.bits .u64) y2 &&& BitVec.ofInt (IntKind.bits .u64) (IntKind.wrap .u64 (a4 - (1 : Int)))).toNat))) - a2))))) (dget a0 (dnat a5) ([] : List (Int)))), a1, a2, y1, a4, (IntKind.wrap .i64 (a5 + (1 : Int))), ()))
        | false => match idx a0 (IntKind.wrap .i64 (a1 + (IntKind.wrap .i64 (IntKind.wrap .u64 ((BitVec.ofInt (IntKind.bits .u64) y2 &&& BitVec.ofInt (IntKind.bits .u64) (IntKind.wrap .u64 (a4 - (1 : Int)))).toNat))))) with
          | none => none
          | some x7 => match idx a0 a5 with
            | none => none
            | some x8 => match idx a0 a5 with
              | none => none
              | some x9 => match idx (dset a0 (dnat a5) (dget a0 (dnat (IntKind.wrap .i64 (a1 + (IntKind.wrap .i64 (IntKind.wrap .u64 ((BitVec.ofInt (IntKind.bits .u64) y2 &&& BitVec.ofInt (IntKind.bits .u64) (IntKind.wrap .u64 (a4 - (1 : Int)))).toNat)))))) ([] : List (Int)))) (IntKind.wrap .i64 (a1 + (IntKind.wrap .i64 (IntKind.wrap .u64 ((BitVec.ofInt (IntKind.bits .u64) y2 &&& BitVec.ofInt (IntKind.bits .u64) (IntKind.wrap .u64 (a4 - (1 : Int)))).toNat))))) with
                | none => none
                | some x10 => some (.inl ((dset (dset a0 (dnat a5) (dget a0 (dnat (IntKind.wrap .i64 (a1 + (IntKind.wrap .i64 (IntKind.wrap .u64 ((BitVec.ofInt (IntKind.bits .u64) y2 &&& BitVec.ofInt (IntKind.bits .u64) (IntKind.wrap .u64 (a4 - (1 : Int)))).toNat)))))) ([] : List (Int)))) (dnat (IntKind.wrap .i64 (a1 + (IntKind.wrap .i64 (IntKind.wrap .u64 ((BitVec.ofInt (IntKind.bits .u64) y2 &&& BitVec.ofInt (IntKind.bits .u64) (IntKind.wrap .u64 (a4 - (1 : Int)))).toNat)))))) (dget a0 (dnat a5) ([] : List (Int)))), a1, a2, y1, a4, (IntKind.wrap .i64 (a5 + (1 : Int))), ()))
    | false => some (.inr (.inl (a0, ())))
def breakL_d : (List (List Int) × Int × Int × Unit) → Option ((List (List Int) × Unit)) := fun (a0, a1, a2, _) =>
  match (ile (8 : Int) (IntKind.wrap .i64 (a2 - a1))) with
  | true => match nextPow ((IntKind.wrap .i64 (a2 - a1)), ()) with
    | none => none
    | some (y0, _) => match quo? .i64 (IntKind.wrap .i64 (a2 - a1)) (4 : Int) with
      | none => none
      | some x1 => match iterL breakL_s0 many (a0, a1, (IntKind.wrap .i64 (a2 - a1)), (IntKind.wrap .u64 (IntKind.wrap .i64 (a2 - a1))), y0, (IntKind.wrap .i64 ((IntKind.wrap .i64 (a1 + (IntKind.wrap .i64 (x1 * (2 : Int))))) - (1 : Int))), ()) with
        | none => none
        | some r => match r with
          | .inl (o2, _) => some (o2, ())
          | .inr _ => none
  | false => some (a0, ())
def breakL (v : (List (List Int) × Int × Int × Unit)) : Option ((List (List Int) × Unit)) := lock (breakL_d v)
theorem breakL_eq (v : (List (List Int) × Int × Int × Unit)) : breakL v = breakL_d v := lock_eq _
def breakL_s0C : (List (List Int) × Int × Int × Int × Int × Int × Unit) → Option ((List (List Int) × Int × Int × Int × Int × Int × Unit) ⊕ (List (List Int) × Unit) ⊕ Unit) := fun (a0, a1, a2, a3, a4, a5, _) =>
  match quoR .i64 a2 (4 : Int) with
  | none => none
  | some x0 => match (ileR a5 (IntKind.wrap .i64 ((IntKind.wrap .i64 (a1 + (IntKind.wrap .i64 (x0 * (2 : Int))))) + (1 : Int)))) with
    | true => match xorNextC (a3, ()) with
      | none => none
      | some (y1, y2, _) => match (ileR a2 (IntKind.wrap .i64 (IntKind.wrap .u64 ((BitVec.ofInt (IntKind.bits .u64) y2 &&& BitVec.ofInt (IntKind.bits .u64) (IntKind.wrap .u64 (a4 - (1 : Int)))).toNat)))) with
        | true => match idxR a0 (IntKind.wrap .i64 (a1 + (IntKind.wrap .i64 ((IntKind.wrap .i64 (IntKind.wrap .u64 ((BitVec.ofInt (IntKind.bits .u64) y2 &&& BitVec.ofInt (IntKind.bits .u64) (IntKind.wrap .u64 (a4 - (1 : Int)))).toNat))) - a2)))) with
          | none => none
          | some x3 => match idxR a0 a5 with
            | none => none
            | some x4 => match idxR a0 a5 with
              | none => none
              | some x5 => match idxR (dset a0 (dnat a5) (dget a0 (dnat (IntKind.wrap .i64 (a1 + (IntKind.wrap .i64 ((IntKind.wrap .i64 (IntKind.wrap .u64 ((BitVec.ofInt (IntKind.bits .u64) y2 &&& BitVec.ofInt (IntKind.bits .u64) (IntKind.wrap .u64 (a4 - (1 : Int)))).toNat))) - a2))))) ([] : List (Int)))) (IntKind.wrap .i64 (a1 + (IntKind.wrap .i64 ((IntKind.wrap .i64 (IntKind.wrap .u64 ((BitVec.ofInt (IntKind.bits .u64) y2 &&& BitVec.ofInt (IntKind.bits .u64) (IntKind.wrap .u64 (a4 - (1 : Int)))).toNat))) - a2)))) with
                | none => none
                | some x6 => some (.inl ((dset (dset a0 (dnat a5) (dget a0 (dnat (IntKind.wrap .i64 (a1 + (IntKind.wrap .i64 ((IntKind.wrap .i64 (IntKind.wrap .u64 ((BitVec.ofInt (IntKind.bits .u64) y2 &&& BitVec.ofInt (IntKind.bits .u64) (IntKind.wrap .u64 (a4 - (1 : Int)))).toNat))) - a2))))) ([] : List (Int)))) (dnat (IntKind.wrap .i64 (a1 + (IntKind.wrap .i64 ((IntKind.wrap .i64 (IntKind.wrap .u64 ((BitVec.ofInt (IntKind.bits .u64) y2 &&& BitVec.ofInt (IntKind.bits .u64) (IntKind.wrap .u64 (a4 - (1 : Int)))).toNat))) - a2))))) (dget a0 (dnat a5) ([] : List (Int)))), a1, a2, y1, a4, (IntKind.wrap .i64 (a5 + (1 : Int))), ()))
        | false => match idxR a0 (IntKind.wrap .i64 (a1 + (IntKind.wrap .i64 (IntKind.wrap .u64 ((BitVec.ofInt (IntKind.bits .u64) y2 &&& BitVec.ofInt (IntKind.bits .u64) (IntKind.wrap .u64 (a4 - (1 : Int)))).toNat))))) with
          | none => none
          | some x7 => match idxR a0 a5 with
            | none => none
            | some x8 => match idxR a0 a5 with
              | none => none
              | some x9 => match idxR (dset a0 (dnat a5) (dget a0 (dnat (IntKind.wrap .i64 (a1 + (IntKind.wrap .i64 (IntKind.wrap .u64 ((BitVec.ofInt (IntKind.bits .u64) y2 &&& BitVec.ofInt (IntKind.bits .u64) (IntKind.wrap .u64 (a4 - (1 : Int)))).toNat)))))) ([] : List (Int)))) (IntKind.wrap .i64 (a1 + (IntKind.wrap .i64 (IntKind.wrap .u64 ((BitVec.ofInt (IntKind.bits .u64) y2 &&& BitVec.ofInt (IntKind.bits .u64) (IntKind.wrap .u64 (a4 - (1 : Int)))).toNat))))) with
                | none => none
                | some x10 => some (.inl ((dset (dset a0 (dnat a5) (dget a0 (dnat (IntKind.wrap .i64 (a1 + (IntKind.wrap .i64 (IntKind.wrap .u64 ((BitVec.ofInt (IntKind.bits .u64) y2 &&& BitVec.ofInt (IntKind.bits .u64) (IntKind.wrap .u64 (a4 - (1 : Int)))).toNat)))))) ([] : List (Int)))) (dnat (IntKind.wrap .i64 (a1 + (IntKind.wrap .i64 (IntKind.wrap .u64 ((BitVec.ofInt (IntKind.bits .u64) y2 &&& BitVec.ofInt (IntKind.bits .u64) (IntKind.wrap .u64 (a4 - (1 : Int)))).toNat)))))) (dget a0 (dnat a5) ([] : List (Int)))), a1, a2, y1, a4, (IntKind.wrap .i64 (a5 + (1 : Int))), ()))
    | false => some (.inr (.inl (a0, ())))

theorem breakL_s0_ceq : breakL_s0 = breakL_s0C := by
  funext v
  simp only [breakL_s0, breakL_s0C, idx_eq, quo_eq, ile_eqR, xorNext_ceq] <;> rfl

def breakL_dC : (List (List Int) × Int × Int × Unit) → Option ((List (List Int) × Unit)) := fun (a0, a1, a2, _) =>
  match (ileR (8 : Int) (IntKind.wrap .i64 (a2 - a1))) with
  | true => match nextPowC ((IntKind.wrap .i64 (a2 - a1)), ()) with
    | none => none
    | some (y0, _) => match quoR .i64 (IntKind.wrap .i64 (a2 - a1)) (4 : Int) with
      | none => none
      | some x1 => match iterO breakL_s0C many (a0, a1, (IntKind.wrap .i64 (a2 - a1)), (IntKind.wrap .u64 (IntKind.wrap .i64 (a2 - a1))), y0, (IntKind.wrap .i64 ((IntKind.wrap .i64 (a1 + (IntKind.wrap .i64 (x1 * (2 : Int))))) - (1 : Int))), ()) with
        | none => none
        | some r => match r with
          | .inl (o2, _) => some (o2, ())
          | .inr _ => none
  | false => some (a0, ())

theorem breakL_d_ceq : breakL_d = breakL_dC := by
  funext v
  simp only [breakL_d, breakL_dC, quo_eq, iterL_eq, ile_eqR, nextPow_ceq, breakL_s0_ceq] <;> rfl

def breakLC (v : denL (leaves breakL_i)) : Option (denL (leaves breakL_o)) := breakL_dC v

theorem breakL_ceq : breakL = breakLC := by
  funext v
  rw [breakL_eq, breakL_d_ceq]; rfl


-- slices.order2CmpFunc[[]int]
abbrev order2L_i : Items := [(.tmp 0, .own 62 (.slice (.int .i64))), (.tmp 1, .dat (.int .i64)), (.tmp 2, .dat (.int .i64)), (.tmp 3, .box 1), (.cell 1 0, .dat (.int .i64)), (.tmp 4, .clo 99 [])]
abbrev order2L_o : Items := [(.obj 0, .own 62 (.slice (.int .i64))), (.obj 1, .box 1), (.cell 1 0, .dat (.int .i64)), (.tmp 0, .dat (.int .i64)), (.tmp 1, .dat (.int .i64))]
abbrev order2L_r : List RS := [.one, .one]
def order2L_d : (List (List Int) × Int × Int × Int × Unit) → Option ((List (List Int) × Int × Int × Int × Unit)) := fun (a0, a1, a2, a3, _) =>
  match idx a0 a2 with
  | none => none
  | some x0 => match idx a0 a1 with
    | none => none
    | some x1 => match with1 ((dget a0 (dnat a2) ([] : List (Int))), (dget a0 (dnat a1) ([] : List (Int))), ()) with
      | none => none
      | some (y2, _) => match (ilt y2 (0 : Int)) with
        | true => some (a0, (IntKind.wrap .i64 (a3 + (1 : Int))), a2, a1, ())
        | false => some (a0, a3, a1, a2, ())
def order2L (v : (List (List Int) × Int × Int × Int × Unit)) : Option ((List (List Int) × Int × Int × Int × Unit)) := lock (order2L_d v)
theorem order2L_eq (v : (List (List Int) × Int × Int × Int × Unit)) : order2L v = order2L_d v := lock_eq _
def order2L_dC : (List (List Int) × Int × Int × Int × Unit) → Option ((List (List Int) × Int × Int × Int × Unit)) := fun (a0, a1, a2, a3, _) =>
  match idxR a0 a2 with
  | none => none
  | some x0 => match idxR a0 a1 with
    | none => none
    | some x1 => match with1C ((dget a0 (dnat a2) ([] : List (Int))), (dget a0 (dnat a1) ([] : List (Int))), ()) with
      | none => none
      | some (y2, _) => match (iltR y2 (0 : Int)) with
        | true => some (a0, (IntKind.wrap .i64 (a3 + (1 : Int))), a2, a1, ())
        | false => some (a0, a3, a1, a2, ())

theorem order2L_d_ceq : order2L_d = order2L_dC := by
  funext v
  simp only [order2L_d, order2L_dC, idx_eq, ilt_eqR, with1_ceq] <;> rfl

def order2LC (v : denL (leaves order2L_i)) : Option (denL (leaves order2L_o)) := order2L_dC v

theorem order2L_ceq : order2L = order2LC := by
  funext v
  rw [order2L_eq, order2L_d_ceq]; rfl


-- slices.medianCmpFunc[[]int]
abbrev medianL_i : Items := [(.tmp 0, .own 62 (.slice (.int .i64))), (.tmp 1, .dat (.int .i64)), (.tmp 2, .dat (.int .i64)), (.tmp 3, .dat (.int .i64)), (.tmp 4, .box 1), (.cell 1 0, .dat (.int .i64)), (.tmp 5, .clo 99 [])]
abbrev medianL_o : Items := [(.obj 0, .own 62 (.slice (.int .i64))), (.obj 1, .box 1), (.cell 1 0, .dat (.int .i64)), (.tmp 0, .dat (.int .i64))]
abbrev medianL_r : List RS := [.one]
def medianL_d : (List (List Int) × Int × Int × Int × Int × Unit) → Option ((List (List Int) × Int × Int × Unit)) := fun (a0, a1, a2, a3, a4, _) =>
  match order2L (a0, a1, a2, a4, ()) with
  | none => none
  | some (y0, y1, y2, y3, _) => match order2L (y0, y3, a3, y1, ()) with
    | none => none
    | some (y4, y5, y6, y7, _) => match order2L (y4, y2, y6, y5, ()) with
      | none => none
      | some (y8, y9, y10, y11, _) => some (y8, y9, y11, ())
def medianL (v : (List (List Int) × Int × Int × Int × Int × Unit)) : Option ((List (List Int) × Int × Int × Unit)) := lock (medianL_d v)
theorem medianL_eq (v : (List (List Int) × Int × Int × Int × Int × Unit)) : medianL v = medianL_d v := lock_eq _
def medianL_dC : (List (List Int) × Int × Int × Int × Int × Unit) → Option ((List (List Int) × Int × Int × Unit)) := fun (a0, a1, a2, a3, a4, _) =>
  match order2LC (a0, a1, a2, a4, ()) with
  | none => none
  | some (y0, y1, y2, y3, _) => match order2LC (y0, y3, a3, y1, ()) with
    | none => none
    | some (y4, y5, y6, y7, _) => match order2LC (y4, y2, y6, y5, ()) with
      | none => none
      | some (y8, y9, y10, y11, _) => some (y8, y9, y11, ())

theorem medianL_d_ceq : medianL_d = medianL_dC := by
  funext v
  simp only [medianL_d, medianL_dC, order2L_ceq] <;> rfl

def medianLC (v : denL (leaves medianL_i)) : Option (denL (leaves medianL_o)) := medianL_dC v

theorem medianL_ceq : medianL = medianLC := by
  funext v
  rw [medianL_eq, medianL_d_ceq]; rfl


-- slices.medianAdjacentCmpFunc[[]int]
abbrev medAdjL_i : Items := [(.tmp 0, .own 62 (.slice (.int .i64))), (.tmp 1, .dat (.int .i64)), (.tmp 2, .box 1), (.cell 1 0, .dat (.int .i64)), (.tmp 3, .clo 99 [])]
abbrev medAdjL_o : Items := [(.obj 0, .own 62 (.slice (.int .i64))), (.obj 1, .box 1), (.cell 1 0, .dat (.int .i64)), (.tmp 0, .dat (.int .i64))]
abbrev medAdjL_r : List RS := [.one]
def medAdjL_d : (List (List Int) × Int × Int × Unit) → Option ((List (List Int) × Int × Int × Unit)) := fun (a0, a1, a2, _) =>
  match medianL (a0, (IntKind.wrap .i64 (a1 - (1 : Int))), a1, (IntKind.wrap .i64 (a1 + (1 : Int))), a2, ()) with
  | none => none
  | some (y0, y1, y2, _) => some (y0, y1, y2, ())
def medAdjL (v : (List (List Int) × Int × Int × Unit)) : Option ((List (List Int) × Int × Int × Unit)) := lock (medAdjL_d v)
theorem medAdjL_eq (v : (List (List Int) × Int × Int × Unit)) : medAdjL v = medAdjL_d v := lock_eq _
def medAdjL_dC : (List (List Int) × Int × Int × Unit) → Option ((List (List Int) × Int × Int × Unit)) := fun (a0, a1, a2, _) =>
  match medianLC (a0, (IntKind.wrap .i64 (a1 - (1 : Int))), a1, (IntKind.wrap .i64 (a1 + (1 : Int))), a2, ()) with
  | none => none
  | some (y0, y1, y2, _) => some (y0, y1, y2, ())

theorem medAdjL_d_ceq : medAdjL_d = medAdjL_dC := by
  funext v
  simp only [medAdjL_d, medAdjL_dC, medianL_ceq] <;> rfl

def medAdjLC (v : denL (leaves medAdjL_i)) : Option (denL (leaves medAdjL_o)) := medAdjL_dC v

theorem medAdjL_ceq : medAdjL = medAdjLC := by
  funext v
  rw [medAdjL_eq, medAdjL_d_ceq]; rfl


-- slices.choosePivotCmpFunc[[]int]
abbrev pivotL_i : Items := [(.tmp 0, .own 62 (.slice (.int .i64))), (.tmp 1, .dat (.int .i64)), (.tmp 2, .dat (.int .i64)), (.tmp 3, .clo 99 [])]
abbrev pivotL_o : Items := [(.obj 0, .own 62 (.slice (.int .i64))), (.tmp 0, .dat (.int .i64)), (.tmp 1, .dat (.int .i64))]
abbrev pivotL_r : List RS := [.one, .one]
def pivotL_d : (List (List Int) × Int × Int × Unit) → Option ((List (List Int) × Int × Int × Unit)) := fun (a0, a1, a2, _) =>
  match quo? .i64 (IntKind.wrap .i64 (a2 - a1)) (4 : Int) with
  | none => none
  | some x0 => match quo? .i64 (IntKind.wrap .i64 (a2 - a1)) (4 : Int) with
    | none => none
    | some x1 => match quo? .i64 (IntKind.wrap .i64 (a2 - a1)) (4 : Int) with
      | none => none
      | some x2 => match (ile (8 : Int) (IntKind.wrap .i64 (a2 - a1))) with
        | true => match (ile (50 : Int) (IntKind.wrap .i64 (a2 - a1))) with
          | true => match medAdjL (a0, (IntKind.wrap .i64 (a1 + (IntKind.wrap .i64 (x0 * (1 : Int))))), (0 : Int), ()) with
            | none => none
            | some (y3, y4, y5, _) => match medAdjL (y3, (IntKind.wrap .i64 (a1 + (IntKind.wrap .i64 (x1 * (2 : Int))))), y4, ()) with
              | none => none
              | some (y6, y7, y8, _) => match medAdjL (y6, (IntKind.wrap .i64 (a1 + (IntKind.wrap .i64 (x2 * (3 : Int))))), y7, ()) with
                | none => none
                | some (y9, y10, y11, _) => match medianL (y9, y5, y8, y11, y10, ()) with
                  | none => none
                  | some (y12, y13, y14, _) => match (ieq y13 (0 : Int)) with
                    | true => some (y12, y14, (1 : Int), ())
                    | false => match (ieq y13 (12 : Int)) with
                      | true => some (y12, y14, (2 : Int), ())
                      | false => some (y12, y14, (0 : Int), ())
          | false => match medianL (a0, (IntKind.wrap .i64 (a1 + (IntKind.wrap .i64 (x0 * (1 : Int))))), (IntKind.wrap .i64 (a1 + (IntKind.wrap .i64 (x1 * (2 : Int))))), (IntKind.wrap .i64 (a1 + (IntKind.wrap .i64 (x2 * (3 : Int))))), (0 : Int), ()) with
            | none => none
            | some (y15, y16, y17, _) => match (ieq y16 (0 : Int)) with
              | true => some (y15, y17, (1 : Int), ())
              | false => match (ieq y16 (12 : Int)) with
                | true => some (y15, y17, (2 : Int), ())
                | false => some (y15, y17, (0 : Int), ())
        | false => match (ieq (0 : Int) (0 : Int)) with
          | true => some (a0, (IntKind.wrap .i64 (a1 + (IntKind.wrap .i64 (x1 * (2 : Int))))), (1 : Int), ())
          | false => match (ieq (0 : Int) (12 : Int)) with
            | true => some (a0, (IntKind.wrap .i64 (a1 + (IntKind.wrap .i64 (x1 * (2 : Int))))), (2 : Int), ())
            | false => some (a0, (IntKind.wrap .i64 (a1 + (IntKind.wrap .i64 (x1 * (2 : Int))))), (0 : Int), ())
def pivotL (v : (List (List Int) × Int × Int × Unit)) : Option ((List (List Int) × Int × Int × Unit)) := lock (pivotL_d v)
theorem pivotL_eq (v : (List (List Int) × Int × Int × Unit)) : pivotL v = pivotL_d v := lock_eq _
def pivotL_dC : (List (List Int) × Int × Int × Unit) → Option ((List (List Int) × Int × Int × Unit)) := fun (a0, a1, a2, _) =>
  match quoR .i64 (IntKind.wrap .i64 (a2 - a1)) (4 : Int) with
  | none => none
  | some x0 => match quoR .i64 (IntKind.wrap .i64 (a2 - a1)) (4 : Int) with
    | none => none
    | some x1 => match quoR .i64 (IntKind.wrap .i64 (a2 - a1)) (4 : Int) with
      | none => none
      | some x2 => match (ileR (8 : Int) (IntKind.wrap .i64 (a2 - a1))) with
        | true => match (ileR (50 : Int) (IntKind.wrap .i64 (a2 - a1))) with
          | true => match medAdjLC (a0, (IntKind.wrap .i64 (a1 + (IntKind.wrap .i64 (x0 * (1 : Int))))), (0 : Int), ()) with
            | none => none
            | some (y3, y4, y5, _) => match medAdjLC (y3, (IntKind.wrap .i64 (a1 + (IntKind.wrap .i64 (x1 * (2 : Int))))), y4, ()) with
              | none => none
              | some (y6, y7, y8, _) => match medAdjLC (y6, (IntKind.wrap .i64 (a1 + (IntKind.wrap .i64 (x2 * (3 : Int))))), y7, ()) with
                | none => none
                | some (y9, y10, y11, _) => match medianLC (y9, y5, y8, y11, y10, ()) with
                  | none => none
                  | some (y12, y13, y14, _) => match (ieqR y13 (0 : Int)) with
                    | true => some (y12, y14, (1 : Int), ())
                    | false => match (ieqR y13 (12 : Int)) with
                      | true => some (y12, y14, (2 : Int), ())
                      | false => some (y12, y14, (0 : Int), ())
          | false => match medianLC (a0, (IntKind.wrap .i64 (a1 + (IntKind.wrap .i64 (x0 * (1 : Int))))), (IntKind.wrap .i64 (a1 + (IntKind.wrap .i64 (x1 * (2 : Int))))), (IntKind.wrap .i64 (a1 + (IntKind.wrap .i64 (x2 * (3 : Int))))), (0 : Int), ()) with
            | none => none
            | some (y15, y16, y17, _) => match (ieqR y16 (0 : Int)) with
              | true => some (y15, y17, (1 : Int), ())
              | false => match (ieqR y16 (12 : Int)) with
                | true => some (y15, y17, (2 : Int), ())
                | false => some (y15, y17, (0 : Int), ())
        | false => match (ieqR (0 : Int) (0 : Int)) with
          | true => some (a0, (IntKind.wrap .i64 (a1 + (IntKind.wrap .i64 (x1 * (2 : Int))))), (1 : Int), ())
          | false => match (ieqR (0 : Int) (12 : Int)) with
            | true => some (a0, (IntKind.wrap .i64 (a1 + (IntKind.wrap .i64 (x1 * (2 : Int))))), (2 : Int), ())
            | false => some (a0, (IntKind.wrap .i64 (a1 + (IntKind.wrap .i64 (x1 * (2 : Int))))), (0 : Int), ())

theorem pivotL_d_ceq : pivotL_d = pivotL_dC := by
  funext v
  simp only [pivotL_d, pivotL_dC, quo_eq, ile_eqR, ieq_eqR, medianL_ceq, medAdjL_ceq] <;> rfl

def pivotLC (v : denL (leaves pivotL_i)) : Option (denL (leaves pivotL_o)) := pivotL_dC v

theorem pivotL_ceq : pivotL = pivotLC := by
  funext v
  rw [pivotL_eq, pivotL_d_ceq]; rfl


-- slices.reverseRangeCmpFunc[[]int]
abbrev revL_i : Items := [(.tmp 0, .own 62 (.slice (.int .i64))), (.tmp 1, .dat (.int .i64)), (.tmp 2, .dat (.int .i64)), (.tmp 3, .clo 99 [])]
abbrev revL_o : Items := [(.obj 0, .own 62 (.slice (.int .i64)))]
abbrev revL_r : List RS := []
abbrev revL_i0 : Items := [(.obj 0, .own 62 (.slice (.int .i64))), (.tmp 0, .own' 0), (.tmp 8, .dat (.int .i64)), (.tmp 9, .dat (.int .i64))]
abbrev revL_o0 : Outs := [(.exit 0, [(.obj 0, .own 62 (.slice (.int .i64)))])]
def revL_s0 : (List (List Int) × Int × Int × Unit) → Option ((List (List Int) × Int × Int × Unit) ⊕ (List (List Int) × Unit) ⊕ Unit) := fun (a0, a1, a2, _) =>
  match (ilt a1 a2) with
  | true => match idx a0 a2 with
    | none => none
    | some x0 => match idx a0 a1 with
      | none => none
      | some x1 => match idx a0 a1 with
        | none => none
        | some x2 => match idx (dset a0 (dnat a1) (dget a0 (dnat a2) ([] : List (Int)))) a2 with
          | none => none
          | some x3 => some (.inl ((dset (dset a0 (dnat a1) (dget a0 (dnat a2) ([] : List (Int)))) (dnat a2) (dget a0 (dnat a1) ([] : List (Int)))), (IntKind.wrap .i64 (a1 + (1 : Int))), (IntKind.wrap .i64 (a2 - (1 : Int))), ()))
  | false => some (.inr (.inl (a0, ())))
def revL_d : (List (List Int) × Int × Int × Unit) → Option ((List (List Int) × Unit)) := fun (a0, a1, a2, _) =>
  match iterL revL_s0 many (a0, a1, (IntKind.wrap .i64 (a2 - (1 : Int))), ()) with
  | none => none
  | some r => match r with
    | .inl (o0, _) => some (o0, ())
    | .inr _ => none
def revL (v : (List (List Int) × Int × Int × Unit)) : Option ((List (List Int) × Unit)) := lock (revL_d v)
theorem revL_eq (v : (List (List Int) × Int × Int × Unit)) : revL v = revL_d v := lock_eq _
def revL_s0C : (List (List Int) × Int × Int × Unit) → Option ((List (List Int) × Int × Int × Unit) ⊕ (List (List Int) × Unit) ⊕ Unit) := fun (a0, a1, a2, _) =>
  match (iltR a1 a2) with
  | true => match idxR a0 a2 with
    | none => none
    | some x0 => match idxR a0 a1 with
      | none => none
      | some x1 => match idxR a0 a1 with
        | none => none
        | some x2 => match idxR (dset a0 (dnat a1) (dget a0 (dnat a2) ([] : List (Int)))) a2 with
          | none => none
          | some x3 => some (.inl ((dset (dset a0 (dnat a1) (dget a0 (dnat a2) ([] : List (Int)))) (dnat a2) (dget a0 (dnat a1) ([] : List (Int)))), (IntKind.wrap .i64 (a1 + (1 : Int))), (IntKind.wrap .i64 (a2 - (1 : Int))), ()))
  | false => some (.inr (.inl (a0, ())))

theorem revL_s0_ceq : revL_s0 = revL_s0C := by
  funext v
  simp only [revL_s0, revL_s0C, idx_eq, ilt_eqR] <;> rfl

def revL_dC : (List (List Int) × Int × Int × Unit) → Option ((List (List Int) × Unit)) := fun (a0, a1, a2, _) =>
  match iterO revL_s0C many (a0, a1, (IntKind.wrap .i64 (a2 - (1 : Int))), ()) with
  | none => none
  | some r => match r with
    | .inl (o0, _) => some (o0, ())
    | .inr _ => none

theorem revL_d_ceq : revL_d = revL_dC := by
  funext v
  simp only [revL_d, revL_dC, iterL_eq, revL_s0_ceq] <;> rfl

def revLC (v : denL (leaves revL_i)) : Option (denL (leaves revL_o)) := revL_dC v

theorem revL_ceq : revL = revLC := by
  funext v
  rw [revL_eq, revL_d_ceq]; rfl


-- slices.partialInsertionSortCmpFunc[[]int]
abbrev partInsL_i : Items := [(.tmp 0, .own 62 (.slice (.int .i64))), (.tmp 1, .dat (.int .i64)), (.tmp 2, .dat (.int .i64)), (.tmp 3, .clo 99 [])]
abbrev partInsL_o : Items := [(.obj 0, .own 62 (.slice (.int .i64))), (.tmp 0, .dat .bool)]
abbrev partInsL_r : List RS := [.one]
abbrev partInsL_i3 : Items := [(.obj 0, .own 62 (.slice (.int .i64))), (.tmp 0, .own' 0), (.tmp 1, .dat (.int .i64)), (.tmp 2, .dat (.int .i64)), (.tmp 3, .clo 99 []), (.tmp 9, .dat (.int .i64)), (.tmp 10, .dat (.int .i64)), (.tmp 12, .dat (.int .i64))]
abbrev partInsL_o3 : Outs := [(.exit 6, [(.obj 0, .own 62 (.slice (.int .i64))), (.tmp 0, .own' 0), (.tmp 1, .dat (.int .i64)), (.tmp 2, .dat (.int .i64)), (.tmp 3, .clo 99 []), (.tmp 9, .dat (.int .i64)), (.tmp 10, .dat (.int .i64))])]
def partInsL_s3 : (List (List Int) × Int × Int × Int × Int × Int × Unit) → Option ((List (List Int) × Int × Int × Int × Int × Int × Unit) ⊕ (List (List Int) × Int × Int × Int × Int × Unit) ⊕ Unit) := fun (a0, a1, a2, a3, a4, a5, _) =>
  match (ilt a5 a2) with
  | true => match idx a0 a5 with
    | none => none
    | some x0 => match idx a0 (IntKind.wrap .i64 (a5 - (1 : Int))) with
      | none => none
      | some x1 => match with1 ((dget a0 (dnat a5) ([] : List (Int))), (dget a0 (dnat (IntKind.wrap .i64 (a5 - (1 : Int)))) ([] : List (Int))), ()) with
        | none => none
        | some (y2, _) => match (!(ilt y2 (0 : Int))) with
          | true => some (.inr (.inl (a0, a1, a2, a3, a4, ())))
          | false => match idx a0 (IntKind.wrap .i64 (a5 - (1 : Int))) with
            | none => none
            | some x3 => match idx a0 a5 with
              | none => none
              | some x4 => match idx a0 a5 with
                | none => none
                | some x5 => match idx (dset a0 (dnat a5) (dget a0 (dnat (IntKind.wrap .i64 (a5 - (1 : Int)))) ([] : List (Int)))) (IntKind.wrap .i64 (a5 - (1 : Int))) with
                  | none => none
                  | some x6 => some (.inl ((dset (dset a0 (dnat a5) (dget a0 (dnat (IntKind.wrap .i64 (a5 - (1 : Int)))) ([] : List (Int)))) (dnat (IntKind.wrap .i64 (a5 - (1 : Int)))) (dget a0 (dnat a5) ([] : List (Int)))), a1, a2, a3, a4, (IntKind.wrap .i64 (a5 + (1 : Int))), ()))
  | false => some (.inr (.inl (a0, a1, a2, a3, a4, ())))
abbrev partInsL_i2 : Items := [(.obj 0, .own 62 (.slice (.int .i64))), (.tmp 0, .own' 0), (.tmp 1, .dat (.int .i64)), (.tmp 2, .dat (.int .i64)), (.tmp 3, .clo 99 []), (.tmp 9, .dat (.int .i64)), (.tmp 10, .dat (.int .i64)), (.tmp 11, .dat (.int .i64))]
abbrev partInsL_o2 : Outs := [(.exit 4, [(.obj 0, .own 62 (.slice (.int .i64))), (.tmp 0, .own' 0), (.tmp 1, .dat (.int .i64)), (.tmp 2, .dat (.int .i64)), (.tmp 3, .clo 99 []), (.tmp 9, .dat (.int .i64)), (.tmp 10, .dat (.int .i64))])]
def partInsL_s2 : (List (List Int) × Int × Int × Int × Int × Int × Unit) → Option ((List (List Int) × Int × Int × Int × Int × Int × Unit) ⊕ (List (List Int) × Int × Int × Int × Int × Unit) ⊕ Unit) := fun (a0, a1, a2, a3, a4, a5, _) =>
  match (ile (1 : Int) a5) with
  | true => match idx a0 a5 with
    | none => none
    | some x0 => match idx a0 (IntKind.wrap .i64 (a5 - (1 : Int))) with
      | none => none
      | some x1 => match with1 ((dget a0 (dnat a5) ([] : List (Int))), (dget a0 (dnat (IntKind.wrap .i64 (a5 - (1 : Int)))) ([] : List (Int))), ()) with
        | none => none
        | some (y2, _) => match (!(ilt y2 (0 : Int))) with
          | true => some (.inr (.inl (a0, a1, a2, a3, a4, ())))
          | false => match idx a0 (IntKind.wrap .i64 (a5 - (1 : Int))) with
            | none => none
            | some x3 => match idx a0 a5 with
              | none => none
              | some x4 => match idx a0 a5 with
                | none => none
                | some x5 => match idx (dset a0 (dnat a5) (dget a0 (dnat (IntKind.wrap .i64 (a5 - (1 : Int)))) ([] : List (Int)))) (IntKind.wrap .i64 (a5 - (1 : Int))) with
                  | none => none
                  | some x6 => some (.inl ((dset (dset a0 (dnat a5) (dget a0 (dnat (IntKind.wrap .i64 (a5 - (1 : Int)))) ([] : List (Int)))) (dnat (IntKind.wrap .i64 (a5 - (1 : Int)))) (dget a0 (dnat a5) ([] : List (Int)))), a1, a2, a3, a4, (IntKind.wrap .i64 (a5 - (1 : Int))), ()))
  | false => some (.inr (.inl (a0, a1, a2, a3, a4, ())))
abbrev partInsL_i1 : Items := [(.obj 0, .own 62 (.slice (.int .i64))), (.tmp 0, .own' 0), (.tmp 1, .dat (.int .i64)), (.tmp 2, .dat (.int .i64)), (.tmp 3, .clo 99 []), (.tmp 9, .dat (.int .i64)), (.tmp 10, .dat (.int .i64))]
abbrev partInsL_o1 : Outs := [(.exit 2, [(.obj 0, .own 62 (.slice (.int .i64))), (.tmp 0, .own' 0), (.tmp 1, .dat (.int .i64)), (.tmp 2, .dat (.int .i64)), (.tmp 3, .clo 99 []), (.tmp 9, .dat (.int .i64)), (.tmp 10, .dat (.int .i64))])]
def partInsL_s1 : (List (List Int) × Int × Int × Int × Int × Unit) → Option ((List (List Int) × Int × Int × Int × Int × Unit) ⊕ (List (List Int) × Int × Int × Int × Int × Unit) ⊕ Unit) := fun (a0, a1, a2, a3, a4, _) =>
  match (ilt a3 a2) with
  | true => match idx a0 a3 with
    | none => none
    | some x0 => match idx a0 (IntKind.wrap .i64 (a3 - (1 : Int))) with
      | none => none
      | some x1 => match with1 ((dget a0 (dnat a3) ([] : List (Int))), (dget a0 (dnat (IntKind.wrap .i64 (a3 - (1 : Int)))) ([] : List (Int))), ()) with
        | none => none
        | some (y2, _) => match (!(ilt y2 (0 : Int))) with
          | true => some (.inl (a0, a1, a2, (IntKind.wrap .i64 (a3 + (1 : Int))), a4, ()))
          | false => some (.inr (.inl (a0, a1, a2, a3, a4, ())))
  | false => some (.inr (.inl (a0, a1, a2, a3, a4, ())))
abbrev partInsL_i0 : Items := [(.obj 0, .own 62 (.slice (.int .i64))), (.tmp 0, .own' 0), (.tmp 1, .dat (.int .i64)), (.tmp 2, .dat (.int .i64)), (.tmp 3, .clo 99 []), (.tmp 9, .dat (.int .i64)), (.tmp 10, .dat (.int .i64))]
abbrev partInsL_o0 : Outs := [(.ret, [(.obj 0, .own 62 (.slice (.int .i64))), (.tmp 8, .dat .bool)]), (.exit 0, [(.obj 0, .own 62 (.slice (.int .i64)))])]
def partInsL_s0 : (List (List Int) × Int × Int × Int × Int × Unit) → Option ((List (List Int) × Int × Int × Int × Int × Unit) ⊕ (List (List Int) × Bool × Unit) ⊕ (List (List Int) × Unit) ⊕ Unit) := fun (a0, a1, a2, a3, a4, _) =>
  match (ilt a4 (5 : Int)) with
  | true => match iterL partInsL_s1 many (a0, a1, a2, a3, a4, ()) with
    | none => none
    | some r => match r with
      | .inl (o0, o1, o2, o3, o4, _) => match (ieq o3 o2) with
        | true => some (.inr (.inl (o0, true, ())))
        | false => match (ilt (IntKind.wrap .i64 (o2 - o1)) (50 : Int)) with
          | true => some (.inr (.inl (o0, false, ())))
          | false => match idx o0 (IntKind.wrap .i64 (o3 - (1 : Int))) with
            | none => none
            | some x5 => match idx o0 o3 with
              | none => none
              | some x6 => match idx o0 o3 with
                | none => none
                | some x7 => match idx (dset o0 (dnat o3) (dget o0 (dnat (IntKind.wrap .i64 (o3 - (1 : Int)))) ([] : List (Int)))) (IntKind.wrap .i64 (o3 - (1 : Int))) with
                  | none => none
                  | some x8 => match (ile (2 : Int) (IntKind.wrap .i64 (o3 - o1))) with
                    | true => match iterL partInsL_s2 many ((dset (dset o0 (dnat o3) (dget o0 (dnat (IntKind.wrap .i64 (o3 - (1 : Int)))) ([] : List (Int)))) (dnat (IntKind.wrap .i64 (o3 - (1 : Int)))) (dget o0 (dnat o3) ([] : List (Int)))), o1, o2, o3, o4, (IntKind.wrap .i64 (o3 - (1 : Int))), ()) with
                      | none => none
                      | some r => match r with
                        | .inl (o9, o10, o11, o12, o13, _) => match (ile (2 : Int) (IntKind.wrap .i64 (o11 - o12))) with
                          | true => match iterL partInsL_s3 many (o9, o10, o11, o12, o13, (IntKind.wrap .i64 (o12 + (1 : Int))), ()) with
                            | none => none
                            | some r => match r with
                              | .inl (o14, o15, o16, o17, o18, _) => some (.inl (o14, o15, o16, o17, (IntKind.wrap .i64 (o18 + (1 : Int))), ()))
                              | .inr _ => none
                          | false => some (.inl (o9, o10, o11, o12, (IntKind.wrap .i64 (o13 + (1 : Int))), ()))
                        | .inr _ => none
                    | false => match (ile (2 : Int) (IntKind.wrap .i64 (o2 - o3))) with
                      | true => match iterL partInsL_s3 many ((dset (dset o0 (dnat o3) (dget o0 (dnat (IntKind.wrap .i64 (o3 - (1 : Int)))) ([] : List (Int)))) (dnat (IntKind.wrap .i64 (o3 - (1 : Int)))) (dget o0 (dnat o3) ([] : List (Int)))), o1, o2, o3, o4, (IntKind.wrap .i64 (o3 + (1 : Int))), ()) with
                        | none => none
                        | some r => match r with
                          | .inl (o19, o20, o21, o22, o23, _) => some (.inl (o19, o20, o21, o22, (IntKind.wrap .i64 (o23 + (1 : Int))), ()))
                          | .inr _ => none
                      | false => some (.inl ((dset (dset o0 (dnat o3) (dget o0 (dnat (IntKind.wrap .i64 (o3 - (1 : Int)))) ([] : List (Int)))) (dnat (IntKind.wrap .i64 (o3 - (1 : Int)))) (dget o0 (dnat o3) ([] : List (Int)))), o1, o2, o3, (IntKind.wrap .i64 (o4 + (1 : Int))), ()))
      | .inr _ => none
  | false => some (.inr (.inr (.inl (a0, ()))))
def partInsL_d : (List (List Int) × Int × Int × Unit) → Option ((List (List Int) × Bool × Unit)) := fun (a0, a1, a2, _) =>
  match iterL partInsL_s0 many (a0, a1, a2, (IntKind.wrap .i64 (a1 + (1 : Int))), (0 : Int), ()) with
  | none => none
  | some r => match r with
    | .inl (o0, o1, _) => some (o0, o1, ())
    | .inr r => match r with
      | .inl (o2, _) => some (o2, false, ())
      | .inr _ => none
def partInsL (v : (List (List Int) × Int × Int × Unit)) : Option ((List (List Int) × Bool × Unit)) := lock (partInsL_d v)
theorem partInsL_eq (v : (List (List Int) × Int × Int × Unit)) : partInsL v = partInsL_d v := lock_eq _
def partInsL_s3C : (List (List Int) × Int × Int × Int × Int × Int × Unit) → Option ((List (List Int) × Int × Int × Int × Int × Int × Unit) ⊕ (List (List Int) × Int × Int × Int × Int × Unit) ⊕ Unit) := fun (a0, a1, a2, a3, a4, a5, _) =>
  match (iltR a5 a2) with
  | true => match idxR a0 a5 with
    | none => none
    | some x0 => match idxR a0 (IntKind.wrap .i64 (a5 - (1 : Int))) with
      | none => none
      | some x1 => match with1C ((dget a0 (dnat a5) ([] : List (Int))), (dget a0 (dnat (IntKind.wrap .i64 (a5 - (1 : Int)))) ([] : List (Int))), ()) with
        | none => none
        | some (y2, _) => match (!(iltR y2 (0 : Int))) with
          | true => some (.inr (.inl (a0, a1, a2, a3, a4, ())))
          | false => match idxR a0 (IntKind.wrap .i64 (a5 - (1 : Int))) with
            | none => none
            | some x3 => match idxR a0 a5 with
              | none => none
              | some x4 => match idxR a0 a5 with
                | none => none
                | some x5 => match idxR (dset a0 (dnat a5) (dget a0 (dnat (IntKind.wrap .i64 (a5 - (1 : Int)))) ([] : List (Int)))) (IntKind.wrap .i64 (a5 - (1 : Int))) with
                  | none => none
                  | some x6 => some (.inl ((dset (dset a0 (dnat a5) (dget a0 (dnat (IntKind.wrap .i64 (a5 - (1 : Int)))) ([] : List (Int)))) (dnat (IntKind.wrap .i64 (a5 - (1 : Int)))) (dget a0 (dnat a5) ([] : List (Int)))), a1, a2, a3, a4, (IntKind.wrap .i64 (a5 + (1 : Int))), ()))
  | false => some (.inr (.inl (a0, a1, a2, a3, a4, ())))

theorem partInsL_s3_ceq : partInsL_s3 = partInsL_s3C := by
  funext v
  simp only [partInsL_s3, partInsL_s3C, idx_eq, ilt_eqR, with1_ceq] <;> rfl

def partInsL_s2C : (List (List Int) × Int × Int × Int × Int × Int × Unit) → Option ((List (List Int) × Int × Int × Int × Int × Int × Unit) ⊕ (List (List Int) × Int × Int × Int × Int × Unit) ⊕ Unit) := fun (a0, a1, a2, a3, a4, a5, _) =>
  match (ileR (1 : Int) a5) with
  | true => match idxR a0 a5 with
    | none => none
    | some x0 => match idxR a0 (IntKind.wrap .i64 (a5 - (1 : Int))) with
      | none => none
      | some x1 => match with1C ((dget a0 (dnat a5) ([] : List (Int))), (dget a0 (dnat (IntKind.wrap .i64 (a5 - (1 : Int)))) ([] : List (Int))), ()) with
        | none => none
        | some (y2, _) => match (!(iltR y2 (0 : Int))) with
          | true => some (.inr (.inl (a0, a1, a2, a3, a4, ())))
          | false => match idxR a0 (IntKind.wrap .i64 (a5 - (1 : Int))) with
            | none => none
            | some x3 => match idxR a0 a5 with
              | none => none
              | some x4 => match idxR a0 a5 with
                | none => none
                | some x5 => match idxR (dset a0 (dnat a5) (dget a0 (dnat (IntKind.wrap .i64 (a5 - (1 : Int)))) ([] : List (Int)))) (IntKind.wrap .i64 (a5 - (1 : Int))) with
                  | none => none
                  | some x6 => some (.inl ((dset (dset a0 (dnat a5) (dget a0 (dnat (IntKind.wrap .i64 (a5 - (1 : Int)))) ([] : List (Int)))) (dnat (IntKind.wrap .i64 (a5 - (1 : Int)))) (dget a0 (dnat a5) ([] : List (Int)))), a1, a2, a3, a4, (IntKind.wrap .i64 (a5 - (1 : Int))), ()))
  | false => some (.inr (.inl (a0, a1, a2, a3, a4, ())))

theorem partInsL_s2_ceq : partInsL_s2 = partInsL_s2C := by
  funext v
  simp only [partInsL_s2, partInsL_s2C, idx_eq, ilt_eqR, ile_eqR, with1_ceq] <;> rfl

def partInsL_s1C : (List (List Int) × Int × Int × Int × Int × Unit) → Option ((List (List Int) × Int × Int × Int × Int × Unit) ⊕ (List (List Int) × Int × Int × Int × Int × Unit) ⊕ Unit) := fun (a0, a1, a2, a3, a4, _) =>
  match (iltR a3 a2) with
  | true => match idxR a0 a3 with
    | none => none
    | some x0 => match idxR a0 (IntKind.wrap .i64 (a3 - (1 : Int))) with
      | none => none
      | some x1 => match with1C ((dget a0 (dnat a3) ([] : List (Int))), (dget a0 (dnat (IntKind.wrap .i64 (a3 - (1 : Int)))) ([] : List (Int))), ()) with
        | none => none
        | some (y2, _) => match (!(iltR y2 (0 : Int))) with
          | true => some (.inl (a0, a1, a2, (IntKind.wrap .i64 (a3 + (1 : Int))), a4, ()))
          | false => some (.inr (.inl (a0, a1, a2, a3, a4, ())))
  | false => some (.inr (.inl (a0, a1, a2, a3, a4, ())))

theorem partInsL_s1_ceq : partInsL_s1 = partInsL_s1C := by
  funext v
  simp only [partInsL_s1, partInsL_s1C, idx_eq, ilt_eqR, with1_ceq] <;> rfl

def partInsL_s0C : (List (List Int) × Int × Int × Int × Int × Unit) → Option ((List (List Int) × Int × Int × Int × Int × Unit) ⊕ (List (List Int) × Bool × Unit) ⊕ (List (List Int) × Unit) ⊕ Unit) := fun (a0, a1, a2, a3, a4, _) =>
  match (iltR a4 (5 : Int)) with
  | true => match iterO partInsL_s1C many (a0, a1, a2, a3, a4, ()) with
    | none => none
    | some r => match r with
      | .inl (o0, o1, o2, o3, o4, _) => match (ieqR o3 o2) with
        | true => some (.inr (.inl (o0, true, ())))
        | false => match (iltR (IntKind.wrap .i64 (o2 - o1)) (50 : Int)) with
          | true => some (.inr (.inl (o0, false, ())))
          | false => match idxR o0 (IntKind.wrap .i64 (o3 - (1 : Int))) with
            | none => none
            | some x5 => match idxR o0 o3 with
              | none => none
              | some x6 => match idxR o0 o3 with
                | none => none
                | some x7 => match idxR (dset o0 (dnat o3) (dget o0 (dnat (IntKind.wrap .i64 (o3 - (1 : Int)))) ([] : List (Int)))) (IntKind.wrap .i64 (o3 - (1 : Int))) with
                  | none => none
                  | some x8 => match (ileR (2 : Int) (IntKind.wrap .i64 (o3 - o1))) with
                    | true => match iterO partInsL_s2C many ((dset (dset o0 (dnat o3) (dget o0 (dnat (IntKind.wrap .i64 (o3 - (1 : Int)))) ([] : List (Int)))) (dnat (IntKind.wrap .i64 (o3 - (1 : Int)))) (dget o0 (dnat o3) ([] : List (Int)))), o1, o2, o3, o4, (IntKind.wrap .i64 (o3 - (1 : Int))), ()) with
                      | none => none
                      | some r => match r with
                        | .inl (o9, o10, o11, o12, o13, _) => match (ileR (2 : Int) (IntKind.wrap .i64 (o11 - o12))) with
                          | true => match iterO partInsL_s3C many (o9, o10, o11, o12, o13, (IntKind.wrap .i64 (o12 + (1 : Int))), ()) with
                            | none => none
                            | some r => match r with
                              | .inl (o14, o15, o16, o17, o18, _) => some (.inl (o14, o15, o16, o17, (IntKind.wrap .i64 (o18 + (1 : Int))), ()))
                              | .inr _ => none
                          | false => some (.inl (o9, o10, o11, o12, (IntKind.wrap .i64 (o13 + (1 : Int))), ()))
                        | .inr _ => none
                    | false => match (ileR (2 : Int) (IntKind.wrap .i64 (o2 - o3))) with
                      | true => match iterO partInsL_s3C many ((dset (dset o0 (dnat o3) (dget o0 (dnat (IntKind.wrap .i64 (o3 - (1 : Int)))) ([] : List (Int)))) (dnat (IntKind.wrap .i64 (o3 - (1 : Int)))) (dget o0 (dnat o3) ([] : List (Int)))), o1, o2, o3, o4, (IntKind.wrap .i64 (o3 + (1 : Int))), ()) with
                        | none => none
                        | some r => match r with
                          | .inl (o19, o20, o21, o22, o23, _) => some (.inl (o19, o20, o21, o22, (IntKind.wrap .i64 (o23 + (1 : Int))), ()))
                          | .inr _ => none
                      | false => some (.inl ((dset (dset o0 (dnat o3) (dget o0 (dnat (IntKind.wrap .i64 (o3 - (1 : Int)))) ([] : List (Int)))) (dnat (IntKind.wrap .i64 (o3 - (1 : Int)))) (dget o0 (dnat o3) ([] : List (Int)))), o1, o2, o3, (IntKind.wrap .i64 (o4 + (1 : Int))), ()))
      | .inr _ => none
  | false => some (.inr (.inr (.inl (a0, ()))))

theorem partInsL_s0_ceq : partInsL_s0 = partInsL_s0C := by
  funext v
  simp only [partInsL_s0, partInsL_s0C, idx_eq, iterL_eq, ilt_eqR, ile_eqR, ieq_eqR, partInsL_s3_ceq, partInsL_s2_ceq, partInsL_s1_ceq] <;> rfl

def partInsL_dC : (List (List Int) × Int × Int × Unit) → Option ((List (List Int) × Bool × Unit)) := fun (a0, a1, a2, _) =>
  match iterO partInsL_s0C many (a0, a1, a2, (IntKind.wrap .i64 (a1 + (1 : Int))), (0 : Int), ()) with
  | none => none
  | some r => match r with
    | .inl (o0, o1, _) => some (o0, o1, ())
    | .inr r => match r with
      | .inl (o2, _) => some (o2, false, ())
      | .inr _ => none

theorem partInsL_d_ceq : partInsL_d = partInsL_dC := by
  funext v
  simp only [partInsL_d, partInsL_dC, iterL_eq, partInsL_s0_ceq] <;> rfl

def partInsLC (v : denL (leaves partInsL_i)) : Option (denL (leaves partInsL_o)) := partInsL_dC v

theorem partInsL_ceq : partInsL = partInsLC := by
  funext v
  rw [partInsL_eq, partInsL_d_ceq]; rfl


-- slices.partitionEqualCmpFunc[[]int]
abbrev partEqL_i : Items := [(.tmp 0, .own 62 (.slice (.int .i64))), (.tmp 1, .dat (.int .i64)), (.tmp 2, .dat (.int .i64)), (.tmp 3, .dat (.int .i64)), (.tmp 4, .clo 99 [])]
abbrev partEqL_o : Items := [(.obj 0, .own 62 (.slice (.int .i64))), (.tmp 0, .dat (.int .i64))]
abbrev partEqL_r : List RS := [.one]
abbrev partEqL_i2 : Items := [(.obj 0, .own 62 (.slice (.int .i64))), (.tmp 0, .own' 0), (.tmp 1, .dat (.int .i64)), (.tmp 4, .clo 99 []), (.tmp 11, .dat (.int .i64)), (.tmp 12, .dat (.int .i64))]
abbrev partEqL_o2 : Outs := [(.exit 4, [(.obj 0, .own 62 (.slice (.int .i64))), (.tmp 0, .own' 0), (.tmp 1, .dat (.int .i64)), (.tmp 4, .clo 99 []), (.tmp 11, .dat (.int .i64)), (.tmp 12, .dat (.int .i64))])]
def partEqL_s2 : (List (List Int) × Int × Int × Int × Unit) → Option ((List (List Int) × Int × Int × Int × Unit) ⊕ (List (List Int) × Int × Int × Int × Unit) ⊕ Unit) := fun (a0, a1, a2, a3, _) =>
  match (ile a2 a3) with
  | true => match idx a0 a1 with
    | none => none
    | some x0 => match idx a0 a3 with
      | none => none
      | some x1 => match with1 ((dget a0 (dnat a1) ([] : List (Int))), (dget a0 (dnat a3) ([] : List (Int))), ()) with
        | none => none
        | some (y2, _) => match (ilt y2 (0 : Int)) with
          | true => some (.inl (a0, a1, a2, (IntKind.wrap .i64 (a3 - (1 : Int))), ()))
          | false => some (.inr (.inl (a0, a1, a2, a3, ())))
  | false => some (.inr (.inl (a0, a1, a2, a3, ())))
abbrev partEqL_i1 : Items := [(.obj 0, .own 62 (.slice (.int .i64))), (.tmp 0, .own' 0), (.tmp 1, .dat (.int .i64)), (.tmp 4, .clo 99 []), (.tmp 11, .dat (.int .i64)), (.tmp 12, .dat (.int .i64))]
abbrev partEqL_o1 : Outs := [(.exit 2, [(.obj 0, .own 62 (.slice (.int .i64))), (.tmp 0, .own' 0), (.tmp 1, .dat (.int .i64)), (.tmp 4, .clo 99 []), (.tmp 11, .dat (.int .i64)), (.tmp 12, .dat (.int .i64))])]
def partEqL_s1 : (List (List Int) × Int × Int × Int × Unit) → Option ((List (List Int) × Int × Int × Int × Unit) ⊕ (List (List Int) × Int × Int × Int × Unit) ⊕ Unit) := fun (a0, a1, a2, a3, _) =>
  match (ile a2 a3) with
  | true => match idx a0 a1 with
    | none => none
    | some x0 => match idx a0 a2 with
      | none => none
      | some x1 => match with1 ((dget a0 (dnat a1) ([] : List (Int))), (dget a0 (dnat a2) ([] : List (Int))), ()) with
        | none => none
        | some (y2, _) => match (!(ilt y2 (0 : Int))) with
          | true => some (.inl (a0, a1, (IntKind.wrap .i64 (a2 + (1 : Int))), a3, ()))
          | false => some (.inr (.inl (a0, a1, a2, a3, ())))
  | false => some (.inr (.inl (a0, a1, a2, a3, ())))
abbrev partEqL_i0 : Items := [(.obj 0, .own 62 (.slice (.int .i64))), (.tmp 0, .own' 0), (.tmp 1, .dat (.int .i64)), (.tmp 4, .clo 99 []), (.tmp 11, .dat (.int .i64)), (.tmp 12, .dat (.int .i64))]
abbrev partEqL_o0 : Outs := [(.exit 0, [(.obj 0, .own 62 (.slice (.int .i64))), (.tmp 11, .dat (.int .i64))])]
def partEqL_s0 : (List (List Int) × Int × Int × Int × Unit) → Option ((List (List Int) × Int × Int × Int × Unit) ⊕ (List (List Int) × Int × Unit) ⊕ Unit) := fun (a0, a1, a2, a3, _) =>
  match iterL partEqL_s1 many (a0, a1, a2, a3, ()) with
  | none => none
  | some r => match r with
    | .inl (o0, o1, o2, o3, _) => match iterL partEqL_s2 many (o0, o1, o2, o3, ()) with
      | none => none
      | some r => match r with
        | .inl (o4, o5, o6, o7, _) => match (ilt o7 o6) with
          | true => some (.inr (.inl (o4, o6, ())))
          | false => match idx o4 o7 with
            | none => none
            | some x8 => match idx o4 o6 with
              | none => none
              | some x9 => match idx o4 o6 with
                | none => none
                | some x10 => match idx (dset o4 (dnat o6) (dget o4 (dnat o7) ([] : List (Int)))) o7 with
                  | none => none
                  | some x11 => some (.inl ((dset (dset o4 (dnat o6) (dget o4 (dnat o7) ([] : List (Int)))) (dnat o7) (dget o4 (dnat o6) ([] : List (Int)))), o5, (IntKind.wrap .i64 (o6 + (1 : Int))), (IntKind.wrap .i64 (o7 - (1 : Int))), ()))
        | .inr _ => none
    | .inr _ => none
def partEqL_d : (List (List Int) × Int × Int × Int × Unit) → Option ((List (List Int) × Int × Unit)) := fun (a0, a1, a2, a3, _) =>
  match idx a0 a3 with
  | none => none
  | some x0 => match idx a0 a1 with
    | none => none
    | some x1 => match idx a0 a1 with
      | none => none
      | some x2 => match idx (dset a0 (dnat a1) (dget a0 (dnat a3) ([] : List (Int)))) a3 with
        | none => none
        | some x3 => match iterL partEqL_s0 many ((dset (dset a0 (dnat a1) (dget a0 (dnat a3) ([] : List (Int)))) (dnat a3) (dget a0 (dnat a1) ([] : List (Int)))), a1, (IntKind.wrap .i64 (a1 + (1 : Int))), (IntKind.wrap .i64 (a2 - (1 : Int))), ()) with
          | none => none
          | some r => match r with
            | .inl (o4, o5, _) => some (o4, o5, ())
            | .inr _ => none
def partEqL (v : (List (List Int) × Int × Int × Int × Unit)) : Option ((List (List Int) × Int × Unit)) := lock (partEqL_d v)
theorem partEqL_eq (v : (List (List Int) × Int × Int × Int × Unit)) : partEqL v = partEqL_d v := lock_eq _
def partEqL_s2C : (List (List Int) × Int × Int × Int × Unit) → Option ((List (List Int) × Int × Int × Int × Unit) ⊕ (List (List Int) × Int × Int × Int × Unit) ⊕ Unit) := fun (a0, a1, a2, a3, _) =>
  match (ileR a2 a3) with
  | true => match idxR a0 a1 with
    | none => none
    | some x0 => match idxR a0 a3 with
      | none => none
      | some x1 => match with1C ((dget a0 (dnat a1) ([] : List (Int))), (dget a0 (dnat a3) ([] : List (Int))), ()) with
        | none => none
        | some (y2, _) => match (iltR y2 (0 : Int)) with
          | true => some (.inl (a0, a1, a2, (IntKind.wrap .i64 (a3 - (1 : Int))), ()))
          | false => some (.inr (.inl (a0, a1, a2, a3, ())))
  | false => some (.inr (.inl (a0, a1, a2, a3, ())))

theorem partEqL_s2_ceq : partEqL_s2 = partEqL_s2C := by
  funext v
  simp only [partEqL_s2, partEqL_s2C, idx_eq, ilt_eqR, ile_eqR, with1_ceq] <;> rfl

def partEqL_s1C : (List (List Int) × Int × Int × Int × Unit) → Option ((List (List Int) × Int × Int × Int × Unit) ⊕ (List (List Int) × Int × Int × Int × Unit) ⊕ Unit) := fun (a0, a1, a2, a3, _) =>
  match (ileR a2 a3) with
  | true => match idxR a0 a1 with
    | none => none
    | some x0 => match idxR a0 a2 with
      | none => none
      | some x1 => match with1C ((dget a0 (dnat a1) ([] : List (Int))), (dget a0 (dnat a2) ([] : List (Int))), ()) with
        | none => none
        | some (y2, _) => match (!(iltR y2 (0 : Int))) with
          | true => some (.inl (a0, a1, (IntKind.wrap .i64 (a2 + (1 : Int))), a3, ()))
          | false => some (.inr (.inl (a0, a1, a2, a3, ())))
  | false => some (.inr (.inl (a0, a1, a2, a3, ())))

theorem partEqL_s1_ceq : partEqL_s1 = partEqL_s1C := by
  funext v
  simp only [partEqL_s1, partEqL_s1C, idx_eq, ilt_eqR, ile_eqR, with1_ceq] <;> rfl

def partEqL_s0C : (List (List Int) × Int × Int × Int × Unit) → Option ((List (List Int) × Int × Int × Int × Unit) ⊕ (List (List Int) × Int × Unit) ⊕ Unit) := fun (a0, a1, a2, a3, _) =>
  match iterO partEqL_s1C many (a0, a1, a2, a3, ()) with
  | none => none
  | some r => match r with
    | .inl (o0, o1, o2, o3, _) => match iterO partEqL_s2C many (o0, o1, o2, o3, ()) with
      | none => none
      | some r => match r with
        | .inl (o4, o5, o6, o7, _) => match (iltR o7 o6) with
          | true => some (.inr (.inl (o4, o6, ())))
          | false => match idxR o4 o7 with
            | none => none
            | some x8 => match idxR o4 o6 with
              | none => none
              | some x9 => match idxR o4 o6 with
                | none => none
                | some x10 => match idxR (dset o4 (dnat o6) (dget o4 (dnat o7) ([] : List (Int)))) o7 with
                  | none => none
                  | some x11 => some (.inl ((dset (dset o4 (dnat o6) (dget o4 (dnat o7) ([] : List (Int)))) (dnat o7) (dget o4 (dnat o6) ([] : List (Int)))), o5, (IntKind.wrap .i64 (o6 + (1 : Int))), (IntKind.wrap .i64 (o7 - (1 : Int))), ()))
        | .inr _ => none
    | .inr _ => none

theorem partEqL_s0_ceq : partEqL_s0 = partEqL_s0C := by
  funext v
  simp only [partEqL_s0, partEqL_s0C, idx_eq, iterL_eq, ilt_eqR, partEqL_s2_ceq, partEqL_s1_ceq] <;> rfl

def partEqL_dC : (List (List Int) × Int × Int × Int × Unit) → Option ((List (List Int) × Int × Unit)) := fun (a0, a1, a2, a3, _) =>
  match idxR a0 a3 with
  | none => none
  | some x0 => match idxR a0 a1 with
    | none => none
    | some x1 => match idxR a0 a1 with
      | none => none
      | some x2 => match idxR (dset a0 (dnat a1) (dget a0 (dnat a3) ([] : List (Int)))) a3 with
        | none => none
        | some x3 => match iterO partEqL_s0C many ((dset (dset a0 (dnat a1) (dget a0 (dnat a3) ([] : List (Int)))) (dnat a3) (dget a0 (dnat a1) ([] : List (Int)))), a1, (IntKind.wrap .i64 (a1 + (1 : Int))), (IntKind.wrap .i64 (a2 - (1 : Int))), ()) with
          | none => none
          | some r => match r with
            | .inl (o4, o5, _) => some (o4, o5, ())
            | .inr _ => none

theorem partEqL_d_ceq : partEqL_d = partEqL_dC := by
  funext v
  simp only [partEqL_d, partEqL_dC, idx_eq, iterL_eq, partEqL_s0_ceq] <;> rfl

def partEqLC (v : denL (leaves partEqL_i)) : Option (denL (leaves partEqL_o)) := partEqL_dC v

theorem partEqL_ceq : partEqL = partEqLC := by
  funext v
  rw [partEqL_eq, partEqL_d_ceq]; rfl


-- slices.partitionCmpFunc[[]int]
abbrev partL_i : Items := [(.tmp 0, .own 62 (.slice (.int .i64))), (.tmp 1, .dat (.int .i64)), (.tmp 2, .dat (.int .i64)), (.tmp 3, .dat (.int .i64)), (.tmp 4, .clo 99 [])]
abbrev partL_o : Items := [(.obj 0, .own 62 (.slice (.int .i64))), (.tmp 0, .dat (.int .i64)), (.tmp 1, .dat .bool)]
abbrev partL_r : List RS := [.one, .one]
abbrev partL_i4 : Items := [(.obj 0, .own 62 (.slice (.int .i64))), (.tmp 0, .own' 0), (.tmp 1, .dat (.int .i64)), (.tmp 4, .clo 99 []), (.tmp 12, .dat (.int .i64)), (.tmp 13, .dat (.int .i64))]
abbrev partL_o4 : Outs := [(.exit 8, [(.obj 0, .own 62 (.slice (.int .i64))), (.tmp 0, .own' 0), (.tmp 1, .dat (.int .i64)), (.tmp 4, .clo 99 []), (.tmp 12, .dat (.int .i64)), (.tmp 13, .dat (.int .i64))])]
def partL_s4 : (List (List Int) × Int × Int × Int × Unit) → Option ((List (List Int) × Int × Int × Int × Unit) ⊕ (List (List Int) × Int × Int × Int × Unit) ⊕ Unit) := fun (a0, a1, a2, a3, _) =>
  match (ile a2 a3) with
  | true => match idx a0 a3 with
    | none => none
    | some x0 => match idx a0 a1 with
      | none => none
      | some x1 => match with1 ((dget a0 (dnat a3) ([] : List (Int))), (dget a0 (dnat a1) ([] : List (Int))), ()) with
        | none => none
        | some (y2, _) => match (!(ilt y2 (0 : Int))) with
          | true => some (.inl (a0, a1, a2, (IntKind.wrap .i64 (a3 - (1 : Int))), ()))
          | false => some (.inr (.inl (a0, a1, a2, a3, ())))
  | false => some (.inr (.inl (a0, a1, a2, a3, ())))
abbrev partL_i3 : Items := [(.obj 0, .own 62 (.slice (.int .i64))), (.tmp 0, .own' 0), (.tmp 1, .dat (.int .i64)), (.tmp 4, .clo 99 []), (.tmp 12, .dat (.int .i64)), (.tmp 13, .dat (.int .i64))]
abbrev partL_o3 : Outs := [(.exit 6, [(.obj 0, .own 62 (.slice (.int .i64))), (.tmp 0, .own' 0), (.tmp 1, .dat (.int .i64)), (.tmp 4, .clo 99 []), (.tmp 12, .dat (.int .i64)), (.tmp 13, .dat (.int .i64))])]
def partL_s3 : (List (List Int) × Int × Int × Int × Unit) → Option ((List (List Int) × Int × Int × Int × Unit) ⊕ (List (List Int) × Int × Int × Int × Unit) ⊕ Unit) := fun (a0, a1, a2, a3, _) =>
  match (ile a2 a3) with
  | true => match idx a0 a2 with
    | none => none
    | some x0 => match idx a0 a1 with
      | none => none
      | some x1 => match with1 ((dget a0 (dnat a2) ([] : List (Int))), (dget a0 (dnat a1) ([] : List (Int))), ()) with
        | none => none
        | some (y2, _) => match (ilt y2 (0 : Int)) with
          | true => some (.inl (a0, a1, (IntKind.wrap .i64 (a2 + (1 : Int))), a3, ()))
          | false => some (.inr (.inl (a0, a1, a2, a3, ())))
  | false => some (.inr (.inl (a0, a1, a2, a3, ())))
abbrev partL_i2 : Items := [(.obj 0, .own 62 (.slice (.int .i64))), (.tmp 0, .own' 0), (.tmp 1, .dat (.int .i64)), (.tmp 4, .clo 99 []), (.tmp 12, .dat (.int .i64)), (.tmp 13, .dat (.int .i64))]
abbrev partL_o2 : Outs := [(.exit 4, [(.obj 0, .own 62 (.slice (.int .i64))), (.tmp 0, .own' 0), (.tmp 1, .dat (.int .i64)), (.tmp 13, .dat (.int .i64))])]
def partL_s2 : (List (List Int) × Int × Int × Int × Unit) → Option ((List (List Int) × Int × Int × Int × Unit) ⊕ (List (List Int) × Int × Int × Unit) ⊕ Unit) := fun (a0, a1, a2, a3, _) =>
  match iterL partL_s3 many (a0, a1, a2, a3, ()) with
  | none => none
  | some r => match r with
    | .inl (o0, o1, o2, o3, _) => match iterL partL_s4 many (o0, o1, o2, o3, ()) with
      | none => none
      | some r => match r with
        | .inl (o4, o5, o6, o7, _) => match (ilt o7 o6) with
          | true => some (.inr (.inl (o4, o5, o7, ())))
          | false => match idx o4 o7 with
            | none => none
            | some x8 => match idx o4 o6 with
              | none => none
              | some x9 => match idx o4 o6 with
                | none => none
                | some x10 => match idx (dset o4 (dnat o6) (dget o4 (dnat o7) ([] : List (Int)))) o7 with
                  | none => none
                  | some x11 => some (.inl ((dset (dset o4 (dnat o6) (dget o4 (dnat o7) ([] : List (Int)))) (dnat o7) (dget o4 (dnat o6) ([] : List (Int)))), o5, (IntKind.wrap .i64 (o6 + (1 : Int))), (IntKind.wrap .i64 (o7 - (1 : Int))), ()))
        | .inr _ => none
    | .inr _ => none
abbrev partL_i1 : Items := [(.obj 0, .own 62 (.slice (.int .i64))), (.tmp 0, .own' 0), (.tmp 1, .dat (.int .i64)), (.tmp 4, .clo 99 []), (.tmp 12, .dat (.int .i64)), (.tmp 13, .dat (.int .i64))]
abbrev partL_o1 : Outs := [(.exit 2, [(.obj 0, .own 62 (.slice (.int .i64))), (.tmp 0, .own' 0), (.tmp 1, .dat (.int .i64)), (.tmp 4, .clo 99 []), (.tmp 12, .dat (.int .i64)), (.tmp 13, .dat (.int .i64))])]
def partL_s1 : (List (List Int) × Int × Int × Int × Unit) → Option ((List (List Int) × Int × Int × Int × Unit) ⊕ (List (List Int) × Int × Int × Int × Unit) ⊕ Unit) := fun (a0, a1, a2, a3, _) =>
  match (ile a2 a3) with
  | true => match idx a0 a3 with
    | none => none
    | some x0 => match idx a0 a1 with
      | none => none
      | some x1 => match with1 ((dget a0 (dnat a3) ([] : List (Int))), (dget a0 (dnat a1) ([] : List (Int))), ()) with
        | none => none
        | some (y2, _) => match (!(ilt y2 (0 : Int))) with
          | true => some (.inl (a0, a1, a2, (IntKind.wrap .i64 (a3 - (1 : Int))), ()))
          | false => some (.inr (.inl (a0, a1, a2, a3, ())))
  | false => some (.inr (.inl (a0, a1, a2, a3, ())))
abbrev partL_i0 : Items := [(.obj 0, .own 62 (.slice (.int .i64))), (.tmp 0, .own' 0), (.tmp 1, .dat (.int .i64)), (.tmp 4, .clo 99 []), (.tmp 12, .dat (.int .i64)), (.tmp 13, .dat (.int .i64))]
abbrev partL_o0 : Outs := [(.exit 0, [(.obj 0, .own 62 (.slice (.int .i64))), (.tmp 0, .own' 0), (.tmp 1, .dat (.int .i64)), (.tmp 4, .clo 99 []), (.tmp 12, .dat (.int .i64)), (.tmp 13, .dat (.int .i64))])]
def partL_s0 : (List (List Int) × Int × Int × Int × Unit) → Option ((List (List Int) × Int × Int × Int × Unit) ⊕ (List (List Int) × Int × Int × Int × Unit) ⊕ Unit) := fun (a0, a1, a2, a3, _) =>
  match (ile a2 a3) with
  | true => match idx a0 a2 with
    | none => none
    | some x0 => match idx a0 a1 with
      | none => none
      | some x1 => match with1 ((dget a0 (dnat a2) ([] : List (Int))), (dget a0 (dnat a1) ([] : List (Int))), ()) with
        | none => none
        | some (y2, _) => match (ilt y2 (0 : Int)) with
          | true => some (.inl (a0, a1, (IntKind.wrap .i64 (a2 + (1 : Int))), a3, ()))
          | false => some (.inr (.inl (a0, a1, a2, a3, ())))
  | false => some (.inr (.inl (a0, a1, a2, a3, ())))
def partL_d : (List (List Int) × Int × Int × Int × Unit) → Option ((List (List Int) × Int × Bool × Unit)) := fun (a0, a1, a2, a3, _) =>
  match idx a0 a3 with
  | none => none
  | some x0 => match idx a0 a1 with
    | none => none
    | some x1 => match idx a0 a1 with
      | none => none
      | some x2 => match idx (dset a0 (dnat a1) (dget a0 (dnat a3) ([] : List (Int)))) a3 with
        | none => none
        | some x3 => match iterL partL_s0 many ((dset (dset a0 (dnat a1) (dget a0 (dnat a3) ([] : List (Int)))) (dnat a3) (dget a0 (dnat a1) ([] : List (Int)))), a1, (IntKind.wrap .i64 (a1 + (1 : Int))), (IntKind.wrap .i64 (a2 - (1 : Int))), ()) with
          | none => none
          | some r => match r with
            | .inl (o4, o5, o6, o7, _) => match iterL partL_s1 many (o4, o5, o6, o7, ()) with
              | none => none
              | some r => match r with
                | .inl (o8, o9, o10, o11, _) => match (ilt o11 o10) with
                  | true => match idx o8 o9 with
                    | none => none
                    | some x12 => match idx o8 o11 with
                      | none => none
                      | some x13 => match idx o8 o11 with
                        | none => none
                        | some x14 => match idx (dset o8 (dnat o11) (dget o8 (dnat o9) ([] : List (Int)))) o9 with
                          | none => none
                          | some x15 => some ((dset (dset o8 (dnat o11) (dget o8 (dnat o9) ([] : List (Int)))) (dnat o9) (dget o8 (dnat o11) ([] : List (Int)))), o11, true, ())
                  | false => match idx o8 o11 with
                    | none => none
                    | some x16 => match idx o8 o10 with
                      | none => none
                      | some x17 => match idx o8 o10 with
                        | none => none
                        | some x18 => match idx (dset o8 (dnat o10) (dget o8 (dnat o11) ([] : List (Int)))) o11 with
                          | none => none
                          | some x19 => match iterL partL_s2 many ((dset (dset o8 (dnat o10) (dget o8 (dnat o11) ([] : List (Int)))) (dnat o11) (dget o8 (dnat o10) ([] : List (Int)))), o9, (IntKind.wrap .i64 (o10 + (1 : Int))), (IntKind.wrap .i64 (o11 - (1 : Int))), ()) with
                            | none => none
                            | some r => match r with
                              | .inl (o20, o21, o22, _) => match idx o20 o21 with
                                | none => none
                                | some x23 => match idx o20 o22 with
                                  | none => none
                                  | some x24 => match idx o20 o22 with
                                    | none => none
                                    | some x25 => match idx (dset o20 (dnat o22) (dget o20 (dnat o21) ([] : List (Int)))) o21 with
                                      | none => none
                                      | some x26 => some ((dset (dset o20 (dnat o22) (dget o20 (dnat o21) ([] : List (Int)))) (dnat o21) (dget o20 (dnat o22) ([] : List (Int)))), o22, false, ())
                              | .inr _ => none
                | .inr _ => none
            | .inr _ => none
def partL (v : (List (List Int) × Int × Int × Int × Unit)) : Option ((List (List Int) × Int × Bool × Unit)) := lock (partL_d v)
theorem partL_eq (v : (List (List Int) × Int × Int × Int × Unit)) : partL v = partL_d v := lock_eq _
def partL_s4C : (List (List Int) × Int × Int × Int × Unit) → Option ((List (List Int) × Int × Int × Int × Unit) ⊕ (List (List Int) × Int × Int × Int × Unit) ⊕ Unit) := fun (a0, a1, a2, a3, _) =>
  match (ileR a2 a3) with
  | true => match idxR a0 a3 with
    | none => none
    | some x0 => match idxR a0 a1 with
      | none => none
      | some x1 => match with1C ((dget a0 (dnat a3) ([] : List (Int))), (dget a0 (dnat a1) ([] : List (Int))), ()) with
        | none => none
        | some (y2, _) => match (!(iltR y2 (0 : Int))) with
          | true => some (.inl (a0, a1, a2, (IntKind.wrap .i64 (a3 - (1 : Int))), ()))
          | false => some (.inr (.inl (a0, a1, a2, a3, ())))
  | false => some (.inr (.inl (a0, a1, a2, a3, ())))

theorem partL_s4_ceq : partL_s4 = partL_s4C := by
  funext v
  simp only [partL_s4, partL_s4C, idx_eq, ilt_eqR, ile_eqR, with1_ceq] <;> rfl

def partL_s3C : (List (List Int) × Int × Int × Int × Unit) → Option ((List (List Int) × Int × Int × Int × Unit) ⊕ (List (List Int) × Int × Int × Int × Unit) ⊕ Unit) := fun (a0, a1, a2, a3, _) =>
  match (ileR a2 a3) with
  | true => match idxR a0 a2 with
    | none => none
    | some x0 => match idxR a0 a1 with
      | none => none
      | some x1 => match with1C ((dget a0 (dnat a2) ([] : List (Int))), (dget a0 (dnat a1) ([] : List (Int))), ()) with
        | none => none
        | some (y2, _) => match (iltR y2 (0 : Int)) with
          | true => some (.inl (a0, a1, (IntKind.wrap .i64 (a2 + (1 : Int))), a3, ()))
          | false => some (.inr (.inl (a0, a1, a2, a3, ())))
  | false => some (.inr (.inl (a0, a1, a2, a3, ())))

theorem partL_s3_ceq : partL_s3 = partL_s3C := by
  funext v
  simp only [partL_s3, partL_s3C, idx_eq, ilt_eqR, ile_eqR, with1_ceq] <;> rfl

def partL_s2C : (List (List Int) × Int × Int × Int × Unit) → Option ((List (List Int) × Int × Int × Int × Unit) ⊕ (List (List Int) × Int × Int × Unit) ⊕ Unit) := fun (a0, a1, a2, a3, _) =>
  match iterO partL_s3C many (a0, a1, a2, a3, ()) with
  | none => none
  | some r => match r with
    | .inl (o0, o1, o2, o3, _) => match iterO partL_s4C many (o0, o1, o2, o3, ()) with
      | none => none
      | some r => match r with
        | .inl (o4, o5, o6, o7, _) => match (iltR o7 o6) with
          | true => some (.inr (.inl (o4, o5, o7, ())))
          | false => match idxR o4 o7 with
            | none => none
            | some x8 => match idxR o4 o6 with
              | none => none
              | some x9 => match idxR o4 o6 with
                | none => none
                | some x10 => match idxR (dset o4 (dnat o6) (dget o4 (dnat o7) ([] : List (Int)))) o7 with
                  | none => none
                  | some x11 => some (.inl ((dset (dset o4 (dnat o6) (dget o4 (dnat o7) ([] : List (Int)))) (dnat o7) (dget o4 (dnat o6) ([] : List (Int)))), o5, (IntKind.wrap .i64 (o6 + (1 : Int))), (IntKind.wrap .i64 (o7 - (1 : Int))), ()))
        | .inr _ => none
    | .inr _ => none

theorem partL_s2_ceq : partL_s2 = partL_s2C := by
  funext v
  simp only [partL_s2, partL_s2C, idx_eq, iterL_eq, ilt_eqR, partL_s4_ceq, partL_s3_ceq] <;> rfl

def partL_s1C : (List (List Int) × Int × Int × Int × Unit) → Option ((List (List Int) × Int × Int × Int × Unit) ⊕ (List (List Int) × Int × Int × Int × Unit) ⊕ Unit) := fun (a0, a1, a2, a3, _) =>
  match (ileR a2 a3) with
  | true => match idxR a0 a3 with
    | none => none
    | some x0 => match idxR a0 a1 with
      | none => none
      | some x1 => match with1C ((dget a0 (dnat a3) ([] : List (Int))), (dget a0 (dnat a1) ([] : List (Int))), ()) with
        | none => none
        | some (y2, _) => match (!(iltR y2 (0 : Int))) with
          | true => some (.inl (a0, a1, a2, (IntKind.wrap .i64 (a3 - (1 : Int))), ()))
          | false => some (.inr (.inl (a0, a1, a2, a3, ())))
  | false => some (.inr (.inl (a0, a1, a2, a3, ())))

theorem partL_s1_ceq : partL_s1 = partL_s1C := by
  funext v
  simp only [partL_s1, partL_s1C, idx_eq, ilt_eqR, ile_eqR, with1_ceq] <;> rfl

def partL_s0C : (List (List Int) × Int × Int × Int × Unit) → Option ((List (List Int) × Int × Int × Int × Unit) ⊕ (List (List Int) × Int × Int × Int × Unit) ⊕ Unit) := fun (a0, a1, a2, a3, _) =>
  match (ileR a2 a3) with
  | true => match idxR a0 a2 with
    | none => none
    | some x0 => match idxR a0 a1 with
      | none => none
      | some x1 => match with1C ((dget a0 (dnat a2) ([] : List (Int))), (dget a0 (dnat a1) ([] : List (Int))), ()) with
        | none => none
        | some (y2, _) => match (iltR y2 (0 : Int)) with
          | true => some (.inl (a0, a1, (IntKind.wrap .i64 (a2 + (1 : Int))), a3, ()))
          | false => some (.inr (.inl (a0, a1, a2, a3, ())))
  | false => some (.inr (.inl (a0, a1, a2, a3, ())))

theorem partL_s0_ceq : partL_s0 = partL_s0C := by
  funext v
  simp only [partL_s0, partL_s0C, idx_eq, ilt_eqR, ile_eqR, with1_ceq] <;> rfl

def partL_dC : (List (List Int) × Int × Int × Int × Unit) → Option ((List (List Int) × Int × Bool × Unit)) := fun (a0, a1, a2, a3, _) =>
  match idxR a0 a3 with
  | none => none
  | some x0 => match idxR a0 a1 with
    | none => none
    | some x1 => match idxR a0 a1 with
      | none => none
      | some x2 => match idxR (dset a0 (dnat a1) (dget a0 (dnat a3) ([] : List (Int)))) a3 with
        | none => none
        | some x3 => match iterO partL_s0C many ((dset (dset a0 (dnat a1) (dget a0 (dnat a3) ([] : List (Int)))) (dnat a3) (dget a0 (dnat a1) ([] : List (Int)))), a1, (IntKind.wrap .i64 (a1 + (1 : Int))), (IntKind.wrap .i64 (a2 - (1 : Int))), ()) with
          | none => none
          | some r => match r with
            | .inl (o4, o5, o6, o7, _) => match iterO partL_s1C many (o4, o5, o6, o7, ()) with
              | none => none
              | some r => match r with
                | .inl (o8, o9, o10, o11, _) => match (iltR o11 o10) with
                  | true => match idxR o8 o9 with
                    | none => none
                    | some x12 => match idxR o8 o11 with
                      | none => none
                      | some x13 => match idxR o8 o11 with
                        | none => none
                        | some x14 => match idxR (dset o8 (dnat o11) (dget o8 (dnat o9) ([] : List (Int)))) o9 with
                          | none => none
                          | some x15 => some ((dset (dset o8 (dnat o11) (dget o8 (dnat o9) ([] : List (Int)))) (dnat o9) (dget o8 (dnat o11) ([] : List (Int)))), o11, true, ())
                  | false => match idxR o8 o11 with
                    | none => none
                    | some x16 => match idxR o8 o10 with
                      | none => none
                      | some x17 => match idxR o8 o10 with
                        | none => none
                        | some x18 => match idxR (dset o8 (dnat o10) (dget o8 (dnat o11) ([] : List (Int)))) o11 with
                          | none => none
                          | some x19 => match iterO partL_s2C many ((dset (dset o8 (dnat o10) (dget o8 (dnat o11) ([] : List (Int)))) (dnat o11) (dget o8 (dnat o10) ([] : List (Int)))), o9, (IntKind.wrap .i64 (o10 + (1 : Int))), (IntKind.wrap .i64 (o11 - (1 : Int))), ()) with
                            | none => none
                            | some r => match r with
                              | .inl (o20, o21, o22, _) => match idxR o20 o21 with
                                | none => none
                                | some x23 => match idxR o20 o22 with
                                  | none => none
                                  | some x24 => match idxR o20 o22 with
                                    | none => none
                                    | some x25 => match idxR (dset o20 (dnat o22) (dget o20 (dnat o21) ([] : List (Int)))) o21 with
                                      | none => none
                                      | some x26 => some ((dset (dset o20 (dnat o22) (dget o20 (dnat o21) ([] : List (Int)))) (dnat o21) (dget o20 (dnat o22) ([] : List (Int)))), o22, false, ())
                              | .inr _ => none
                | .inr _ => none
            | .inr _ => none

theorem partL_d_ceq : partL_d = partL_dC := by
  funext v
  simp only [partL_d, partL_dC, idx_eq, iterL_eq, ilt_eqR, partL_s2_ceq, partL_s1_ceq, partL_s0_ceq] <;> rfl

def partLC (v : denL (leaves partL_i)) : Option (denL (leaves partL_o)) := partL_dC v

theorem partL_ceq : partL = partLC := by
  funext v
  rw [partL_eq, partL_d_ceq]; rfl


end
end Go.Pev
end
section
/- The models of functions: what they compute, as plain functions of leaves; each twice: locked, and to compute with (C). Printed by a program. -/
namespace Go.Pev
set_option maxRecDepth 100000
noncomputable section
attribute [local irreducible] fitsR fitsIR idxR sublR iltR ileR ieqR quoR remR shlR shrR cloneR iterO many IntKind.wrap dlen dset dget dapp dtake dcut drep dnat dclear imin imax lookupM storeM
-- slices.pdqsortCmpFunc[[]int]
abbrev pdqL_i : Items := [(.tmp 0, .own 62 (.slice (.int .i64))), (.tmp 1, .dat (.int .i64)), (.tmp 2, .dat (.int .i64)), (.tmp 3, .dat (.int .i64)), (.tmp 4, .clo 99 [])]
abbrev pdqL_o : Items := [(.obj 0, .own 62 (.slice (.int .i64)))]
abbrev pdqL_r : List RS := []
abbrev pdqL_i0 : Items := [(.obj 0, .own 62 (.slice (.int .i64))), (.tmp 0, .own' 0), (.tmp 1, .dat (.int .i64)), (.tmp 2, .dat (.int .i64)), (.tmp 3, .dat (.int .i64)), (.tmp 4, .clo 99 []), (.tmp 10, .dat .bool), (.tmp 11, .dat .bool)]
abbrev pdqL_o0 : Outs := [(.ret, [(.obj 0, .own 62 (.slice (.int .i64)))])]
def pdqL_s0 (self : (List (List Int) × Int × Int × Int × Unit) → Option ((List (List Int) × Unit))) : (List (List Int) × Int × Int × Int × Bool × Bool × Unit) → Option ((List (List Int) × Int × Int × Int × Bool × Bool × Unit) ⊕ (List (List Int) × Unit) ⊕ Unit) := fun (a0, a1, a2, a3, a4, a5, _) =>
  match (ile (IntKind.wrap .i64 (a2 - a1)) (12 : Int)) with
  | true => match insL (a0, a1, a2, ()) with
    | none => none
    | some (y0, _) => some (.inr (.inl (y0, ())))
  | false => match (ieq a3 (0 : Int)) with
    | true => match heapL (a0, a1, a2, ()) with
      | none => none
      | some (y1, _) => some (.inr (.inl (y1, ())))
    | false => match (!a4) with
      | true => match breakL (a0, a1, a2, ()) with
        | none => none
        | some (y2, _) => match pivotL (y2, a1, a2, ()) with
          | none => none
          | some (y3, y4, y5, _) => match (ieq y5 (2 : Int)) with
            | true => match revL (y3, a1, a2, ()) with
              | none => none
              | some (y6, _) => match a4 with
                | true => match a5 with
                  | true => match (ieq (1 : Int) (1 : Int)) with
                    | true => match partInsL (y6, a1, a2, ()) with
                      | none => none
                      | some (y7, y8, _) => match y8 with
                        | true => some (.inr (.inl (y7, ())))
                        | false => match (ilt (0 : Int) a1) with
                          | true => match idx y7 (IntKind.wrap .i64 (a1 - (1 : Int))) with
                            | none => none
                            | some x9 => match idx y7 (IntKind.wrap .i64 ((IntKind.wrap .i64 (a2 - (1 : Int))) - (IntKind.wrap .i64 (y4 - a1)))) with
                              | none => none
                              | some x10 => match with1 ((dget y7 (dnat (IntKind.wrap .i64 (a1 - (1 : Int)))) ([] : List (Int))), (dget y7 (dnat (IntKind.wrap .i64 ((IntKind.wrap .i64 (a2 - (1 : Int))) - (IntKind.wrap .i64 (y4 - a1))))) ([] : List (Int))), ()) with
                                | none => none
                                | some (y11, _) => match (!(ilt y11 (0 : Int))) with
                                  | true => match partEqL (y7, a1, a2, (IntKind.wrap .i64 ((IntKind.wrap .i64 (a2 - (1 : Int))) - (IntKind.wrap .i64 (y4 - a1)))), ()) with
                                    | none => none
                                    | some (y12, y13, _) => some (.inl (y12, y13, a2, (IntKind.wrap .i64 (a3 - (1 : Int))), a4, a5, ()))
                                  | false => match partL (y7, a1, a2, (IntKind.wrap .i64 ((IntKind.wrap .i64 (a2 - (1 : Int))) - (IntKind.wrap .i64 (y4 - a1)))), ()) with
                                    | none => none
                                    | some (y14, y15, y16, _) => match quo? .i64 (IntKind.wrap .i64 (a2 - a1)) (8 : Int) with
                                      | none => none
                                      | some x17 => match (ilt (IntKind.wrap .i64 (y15 - a1)) (IntKind.wrap .i64 (a2 - y15))) with
                                        | true => match self (y14, a1, y15, (IntKind.wrap .i64 (a3 - (1 : Int))), ()) with
                                          | none => none
                                          | some (y18, _) => some (.inl (y18, (IntKind.wrap .i64 (y15 + (1 : Int))), a2, (IntKind.wrap .i64 (a3 - (1 : Int))), (ile x17 (IntKind.wrap .i64 (y15 - a1))), y16, ()))
                                        | false => match self (y14, (IntKind.wrap .i64 (y15 + (1 : Int))), a2, (IntKind.wrap .i64 (a3 - (1 : Int))), ()) with
                                          | none => none
                                          | some (y19, _) => some (.inl (y19, a1, y15, (IntKind.wrap .i64 (a3 - (1 : Int))), (ile x17 (IntKind.wrap .i64 (a2 - y15))), y16, ()))
                          | false => match partL (y7, a1, a2, (IntKind.wrap .i64 ((IntKind.wrap .i64 (a2 - (1 : Int))) - (IntKind.wrap .i64 (y4 - a1)))), ()) with
                            | none => none
                            | some (y20, y21, y22, _) => match quo? .i64 (IntKind.wrap .i64 (a2 - a1)) (8 : Int) with
                              | none => none
                              | some x23 => match (ilt (IntKind.wrap .i64 (y21 - a1)) (IntKind.wrap .i64 (a2 - y21))) with
                                | true => match self (y20, a1, y21, (IntKind.wrap .i64 (a3 - (1 : Int))), ()) with
                                  | none => none
                                  | some (y24, _) => some (.inl (y24, (IntKind.wrap .i64 (y21 + (1 : Int))), a2, (IntKind.wrap .i64 (a3 - (1 : Int))), (ile x23 (IntKind.wrap .i64 (y21 - a1))), y22, ()))
                                | false => match self (y20, (IntKind.wrap .i64 (y21 + (1 : Int))), a2, (IntKind.wrap .i64 (a3 - (1 : Int))), ()) with
                                  | none => none
                                  | some (y25, _) => some (.inl (y25, a1, y21, (IntKind.wrap .i64 (a3 - (1 : Int))), (ile x23 (IntKind.wrap .i64 (a2 - y21))), y22, ()))
                    | false => match (ilt (0 : Int) a1) with
                      | true => match idx y6 (IntKind.wrap .i64 (a1 - (1 : Int))) with
                        | none => none
                        | some x26 => match idx y6 (IntKind.wrap .i64 ((IntKind.wrap .i64 (a2 - (1 : Int))) - (IntKind.wrap .i64 (y4 - a1)))) with
                          | none => none
                          | some x27 => match with1 ((dget y6 (dnat (IntKind.wrap .i64 (a1 - (1 : Int)))) ([] : List (Int))), (dget y6 (dnat (IntKind.wrap .i64 ((IntKind.wrap .i64 (a2 - (1 : Int))) - (IntKind.wrap .i64 (y4 - a1))))) ([] : List (Int))), ()) with
                            | none => none
                            | some (y28, _) => match (!(ilt y28 (0 : Int))) with
                              | true => match partEqL (y6, a1, a2, (IntKind.wrap .i64 ((IntKind.wrap .i64 (a2 - (1 : Int))) - (IntKind.wrap .i64 (y4 - a1)))), ()) with
                                | none => none
                                | some (y29, y30, _) => some (.inl (y29, y30, a2, (IntKind.wrap .i64 (a3 - (1 : Int))), a4, a5, ()))
                              | false => match partL (y6, a1, a2, (IntKind.wrap .i64 ((IntKind.wrap .i64 (a2 - (1 : Int))) - (IntKind.wrap .i64 (y4 - a1)))), ()) with
                                | none => none
                                | some (y31, y32, y33, _) => match quo? .i64 (IntKind.wrap .i64 (a2 - a1)) (8 : Int) with
                                  | none => none
                                  | some x34 => match (ilt (IntKind.wrap .i64 (y32 - a1)) (IntKind.wrap .i64 (a2 - y32))) with
                                    | true => match self (y31, a1, y32, (IntKind.wrap .i64 (a3 - (1 : Int))), ()) with
                                      | none => none
                                      | some (y35, _) => some (.inl (y35, (IntKind.wrap .i64 (y32 + (1 : Int))), a2, (IntKind.wrap .i64 (a3 - (1 : Int))), (ile x34 (IntKind.wrap .i64 (y32 - a1))), y33, ()))
                                    | false => match self (y31, (IntKind.wrap .i64 (y32 + (1 : Int))), a2, (IntKind.wrap .i64 (a3 - (1 : Int))), ()) with
                                      | none => none
                                      | some (y36, _) => some (.inl (y36, a1, y32, (IntKind.wrap .i64 (a3 - (1 : Int))), (ile x34 (IntKind.wrap .i64 (a2 - y32))), y33, ()))
                      | false => match partL (y6, a1, a2, (IntKind.wrap .i64 ((IntKind.wrap .i64 (a2 - (1 : Int))) - (IntKind.wrap .i64 (y4 - a1)))), ()) with
                        | none => none
                        | some (y37, y38, y39, _) => match quo? .i64 (IntKind.wrap .i64 (a2 - a1)) (8 : Int) with
                          | none => none
                          | some x40 => match (ilt (IntKind.wrap .i64 (y38 - a1)) (IntKind.wrap .i64 (a2 - y38))) with
                            | true => match self (y37, a1, y38, (IntKind.wrap .i64 (a3 - (1 : Int))), ()) with
                              | none => none
                              | some (y41, _) => some (.inl (y41, (IntKind.wrap .i64 (y38 + (1 : Int))), a2, (IntKind.wrap .i64 (a3 - (1 : Int))), (ile x40 (IntKind.wrap .i64 (y38 - a1))), y39, ()))
                            | false => match self (y37, (IntKind.wrap .i64 (y38 + (1 : Int))), a2, (IntKind.wrap .i64 (a3 - (1 : Int))), ()) with
                              | none => none
                              | some (y42, _) => some (.inl (y42, a1, y38, (IntKind.wrap .i64 (a3 - (1 : Int))), (ile x40 (IntKind.wrap .i64 (a2 - y38))), y39, ()))
                  | false => match (ilt (0 : Int) a1) with
                    | true => match idx y6 (IntKind.wrap .i64 (a1 - (1 : Int))) with
                      | none => none
                      | some x43 => match idx y6 (IntKind.wrap .i64 ((IntKind.wrap .i64 (a2 - (1 : Int))) - (IntKind.wrap .i64 (y4 - a1)))) with
                        | none => none
                        | some x44 => match with1 ((dget y6 (dnat (IntKind.wrap .i64 (a1 - (1 : Int)))) ([] : List (Int))), (dget y6 (dnat (IntKind.wrap .i64 ((IntKind.wrap .i64 (a2 - (1 : Int))) - (IntKind.wrap .i64 (y4 - a1))))) ([] : List (Int))), ()) with
                          | none => none
                          | some (y45, _) => match (!(ilt y45 (0 : Int))) with
                            | true => match partEqL (y6, a1, a2, (IntKind.wrap .i64 ((IntKind.wrap .i64 (a2 - (1 : Int))) - (IntKind.wrap .i64 (y4 - a1)))), ()) with
                              | none => none
                              | some (y46, y47, _) => some (.inl (y46, y47, a2, (IntKind.wrap .i64 (a3 - (1 : Int))), a4, a5, ()))
                            | false => match partL (y6, a1, a2, (IntKind.wrap .i64 ((IntKind.wrap .i64 (a2 - (1 : Int))) - (IntKind.wrap .i64 (y4 - a1)))), ()) with
                              | none => none
                              | some (y48, y49, y50, _) => match quo? .i64 (IntKind.wrap .i64 (a2 - a1)) (8 : Int) with
                                | none => none
                                | some x51 => match (ilt (IntKind.wrap .i64 (y49 - a1)) (IntKind.wrap .i64 (a2 - y49))) with
                                  | true => match self (y48, a1, y49, (IntKind.wrap .i64 (a3 - (1 : Int))), ()) with
                                    | none => none
                                    | some (y52, _) => some (.inl (y52, (IntKind.wrap .i64 (y49 + (1 : Int))), a2, (IntKind.wrap .i64 (a3 - (1 : Int))), (ile x51 (IntKind.wrap .i64 (y49 - a1))), y50, ()))
                                  | false => match self (y48, (IntKind.wrap .i64 (y49 + (1 : Int))), a2, (IntKind.wrap .i64 (a3 - (1 : Int))), ()) with
                                    | none => none
                                    | some (y53, _) => some (.inl (y53, a1, y49, (IntKind.wrap .i64 (a3 - (1 : Int))), (ile x51 (IntKind.wrap .i64 (a2 - y49))), y50, ()))
                    | false => match partL (y6, a1, a2, (IntKind.wrap .i64 ((IntKind.wrap .i64 (a2 - (1 : Int))) - (IntKind.wrap .i64 (y4 - a1)))), ()) with
                      | none => none
                      | some (y54, y55, y56, _) => match quo? .i64 (IntKind.wrap .i64 (a2 - a1)) (8 : Int) with
                        | none => none
                        | some x57 => match (ilt (IntKind.wrap .i64 (y55 - a1)) (IntKind.wrap .i64 (a2 - y55))) with
                          | true => match self (y54, a1, y55, (IntKind.wrap .i64 (a3 - (1 : Int))), ()) with
                            | none => none
                            | some (y58, _) => some (.inl (y58, (IntKind.wrap .i64 (y55 + (1 : Int))), a2, (IntKind.wrap .i64 (a3 - (1 : Int))), (ile x57 (IntKind.wrap .i64 (y55 - a1))), y56, ()))
                          | false => match self (y54, (IntKind.wrap .i64 (y55 + (1 : Int))), a2, (IntKind.wrap .i64 (a3 - (1 : Int))), ()) with
                            | none => none
                            | some (y59, _) => some (.inl (y59, a1, y55, (IntKind.wrap .i64 (a3 - (1 : Int))), (ile x57 (IntKind.wrap .i64 (a2 - y55))), y56, ()))
                | false => match (ilt (0 : Int) a1) with
                  | true => match idx y6 (IntKind.wrap .i64 (a1 - (1 : Int))) with
                    | none => none
                    | some x60 => match idx y6 (IntKind.wrap .i64 ((IntKind.wrap .i64 (a2 - (1 : Int))) - (IntKind.wrap .i64 (y4 - a1)))) with
                      | none => none
                      | some x61 => match with1 ((dget y6 (dnat (IntKind.wrap .i64 (a1 - (1 : Int)))) ([] : List (Int))), (dget y6 (dnat (IntKind.wrap .i64 ((IntKind.wrap .i64 (a2 - (1 : Int))) - (IntKind.wrap .i64 (y4 - a1))))) ([] : List (Int))), ()) with
                        | none => none
                        | some (y62, _) => match (!(ilt y62 (0 : Int))) with
                          | true => match partEqL (y6, a1, a2, (IntKind.wrap .i64 ((IntKind.wrap .i64 (a2 - (1 : Int))) - (IntKind.wrap .i64 (y4 - a1)))), ()) with
                            | none => none
                            | some (y63, y64, _) => some (.inl (y63, y64, a2, (IntKind.wrap .i64 (a3 - (1 : Int))), a4, a5, ()))
                          | false => match partL (y6, a1, a2, (IntKind.wrap .i64 ((IntKind.wrap .i64 (a2 - (1 : Int))) - (IntKind.wrap .i64 (y4 - a1)))), ()) with
                            | none => none
                            | some (y65, y66, y67, _) => match quo? .i64 (IntKind.wrap .i64 (a2 - a1)) (8 : Int) with
                              | none => none
                              | some x68 => match (ilt (IntKind.wrap .i64 (y66 - a1)) (IntKind.wrap .i64 (a2 - y66))) with
                                | true => match self (y65, a1, y66, (IntKind.wrap .i64 (a3 - (1 : Int))), ()) with
                                  | none => none
                                  | some (y69, _) => some (.inl (y69, (IntKind.wrap .i64 (y66 + (1 : Int))), a2, (IntKind.wrap .i64 (a3 - (1 : Int))), (ile x68 (IntKind.wrap .i64 (y66 - a1))), y67, ()))
                                | false => match self (y65, (IntKind.wrap .i64 (y66 + (1 : Int))), a2, (IntKind.wrap .i64 (a3 - (1 : Int))), ()) with
                                  | none => none
                                  | some (y70, _) => some (.inl (y70, a1, y66, (IntKind.wrap .i64 (a3 - (1 : Int))), (ile x68 (IntKind.wrap .i64 (a2 - y66))), y67, ()))
                  | false => match partL (y6, a1, a2, (IntKind.wrap .i64 ((IntKind.wrap .i64 (a2 - (1 : Int))) - (IntKind.wrap .i64 (y4 - a1)))), ()) with
                    | none => none
                    | some (y71, y72, y73, _) => match quo? .i64 (IntKind.wrap .i64 (a2 - a1)) (8 : Int) with
                      | none => none
                      | some x74 => match (ilt (IntKind.wrap .i64 (y72 - a1)) (IntKind.wrap .i64 (a2 - y72))) with
                        | true => match self (y71, a1, y72, (IntKind.wrap .i64 (a3 - (1 : Int))), ()) with
                          | none => none
                          | some (y75, _) => some (.inl (y75, (IntKind.wrap .i64 (y72 + (1 : Int))), a2, (IntKind.wrap .i64 (a3 - (1 : Int))), (ile x74 (IntKind.wrap .i64 (y72 - a1))), y73, ()))
                        | false => match self (y71, (IntKind.wrap .i64 (y72 + (1 : Int))), a2, (IntKind.wrap .i64 (a3 - (1 : Int))), ()) with
                          | none => none
                          | some (y76, _) => some (.inl (y76, a1, y72, (IntKind.wrap .i64 (a3 - (1 : Int))), (ile x74 (IntKind.wrap .i64 (a2 - y72))), y73, ()))
            | false => match a4 with
              | true => match a5 with
                | true => match (ieq y5 (1 : Int)) with
                  | true => match partInsL (y3, a1, a2, ()) with
                    | none => none
                    | some (y77, y78, _) => match y78 with
                      | true => some (.inr (.inl (y77, ())))
                      | false => match (ilt (0 : Int) a1) with
                        | true => match idx y77 (IntKind.wrap .i64 (a1 - (1 : Int))) with
                          | none => none
                          | some x79 => match idx y77 y4 with
                            | none => none
                            | some x80 => match with1 ((dget y77 (dnat (IntKind.wrap .i64 (a1 - (1 : Int)))) ([] : List (Int))), (dget y77 (dnat y4) ([] : List (Int))), ()) with
                              | none => none
                              | some (y81, _) => match (!(ilt y81 (0 : Int))) with
                                | true => match partEqL (y77, a1, a2, y4, ()) with
                                  | none => none
                                  | some (y82, y83, _) => some (.inl (y82, y83, a2, (IntKind.wrap .i64 (a3 - (1 : Int))), a4, a5, ()))
                                | false => match partL (y77, a1, a2, y4, ()) with
                                  | none => none
                                  | some (y84, y85, y86, _) => match quo? .i64 (IntKind.wrap .i64 (a2 - a1)) (8 : Int) with
                                    | none => none
                                    | some x87 => match (ilt (IntKind.wrap .i64 (y85 - a1)) (IntKind.wrap .i64 (a2 - y85))) with
                                      | true => match self (y84, a1, y85, (IntKind.wrap .i64 (a3 - (1 : Int))), ()) with
                                        | none => none
                                        | some (y88, _) => some (.inl (y88, (IntKind.wrap .i64 (y85 + (1 : Int))), a2, (IntKind.wrap .i64 (a3 - (1 : Int))), (ile x87 (IntKind.wrap .i64 (y85 - a1))), y86, ()))
                                      | false => match self (y84, (IntKind.wrap .i64 (y85 + (1 : Int))), a2, (IntKind.wrap .i64 (a3 - (1 : Int))), ()) with
                                        | none => none
                                        | some (y89, _) => some (.inl (y89, a1, y85, (IntKind.wrap .i64 (a3 - (1 : Int))), (ile x87 (IntKind.wrap .i64 (a2 - y85))), y86, ()))
                        | false => match partL (y77, a1, a2, y4, ()) with
                          | none => none
                          | some (y90, y91, y92, _) => match quo? .i64 (IntKind.wrap .i64 (a2 - a1)) (8 : Int) with
                            | none => none
                            | some x93 => match (ilt (IntKind.wrap .i64 (y91 - a1)) (IntKind.wrap .i64 (a2 - y91))) with
                              | true => match self (y90, a1, y91, (IntKind.wrap .i64 (a3 - (1 : Int))), ()) with
                                | none => none
                                | some (y94, _) => some (.inl (y94, (IntKind.wrap .i64 (y91 + (1 : Int))), a2, (IntKind.wrap .i64 (a3 - (1 : Int))), (ile x93 (IntKind.wrap .i64 (y91 - a1))), y92, ()))
                              | false => match self (y90, (IntKind.wrap .i64 (y91 + (1 : Int))), a2, (IntKind.wrap .i64 (a3 - (1 : Int))), ()) with
                                | none => none
                                | some (y95, _) => some (.inl (y95, a1, y91, (IntKind.wrap .i64 (a3 - (1 : Int))), (ile x93 (IntKind.wrap .i64 (a2 - y91))), y92, ()))
                  | false => match (ilt (0 : Int) a1) with
                    | true => match idx y3 (IntKind.wrap .i64 (a1 - (1 : Int))) with
                      | none => none
                      | some x96 => match idx y3 y4 with
                        | none => none
                        | some x97 => match with1 ((dget y3 (dnat (IntKind.wrap .i64 (a1 - (1 : Int)))) ([] : List (Int))), (dget y3 (dnat y4) ([] : List (Int))), ()) with
                          | none => none
                          | some (y98, _) => match (!(ilt y98 (0 : Int))) with
                            | true => match partEqL (y3, a1, a2, y4, ()) with
                              | none => none
                              | some (y99, y100, _) => some (.inl (y99, y100, a2, (IntKind.wrap .i64 (a3 - (1 : Int))), a4, a5, ()))
                            | false => match partL (y3, a1, a2, y4, ()) with
                              | none => none
                              | some (y101, y102, y103, _) => match quo? .i64 (IntKind.wrap .i64 (a2 - a1)) (8 : Int) with
                                | none => none
                                | some x104 => match (ilt (IntKind.wrap .i64 (y102 - a1)) (IntKind.wrap .i64 (a2 - y102))) with
                                  | true => match self (y101, a1, y102, (IntKind.wrap .i64 (a3 - (1 : Int))), ()) with
                                    | none => none
                                    | some (y105, _) => some (.inl (y105, (IntKind.wrap .i64 (y102 + (1 : Int))), a2, (IntKind.wrap .i64 (a3 - (1 : Int))), (ile x104 (IntKind.wrap .i64 (y102 - a1))), y103, ()))
                                  | false => match self (y101, (IntKind.wrap .i64 (y102 + (1 : Int))), a2, (IntKind.wrap .i64 (a3 - (1 : Int))), ()) with
                                    | none => none
                                    | some (y106, _) => some (.inl (y106, a1, y102, (IntKind.wrap .i64 (a3 - (1 : Int))), (ile x104 (IntKind.wrap .i64 (a2 - y102))), y103, ()))
                    | false => match partL (y3, a1, a2, y4, ()) with
                      | none => none
                      | some (y107, y108, y109, _) => match quo? .i64 (IntKind.wrap .i64 (a2 - a1)) (8 : Int) with
                        | none => none
                        | some x110 => match (ilt (IntKind.wrap .i64 (y108 - a1)) (IntKind.wrap .i64 (a2 - y108))) with
                          | true => match self (y107, a1, y108, (IntKind.wrap .i64 (a3 - (1 : Int))), ()) with
                            | none => none
                            | some (y111, _) => some (.inl (y111, (IntKind.wrap .i64 (y108 + (1 : Int))), a2, (IntKind.wrap .i64 (a3 - (1 : Int))), (ile x110 (IntKind.wrap .i64 (y108 - a1))), y109, ()))
                          | false => match self (y107, (IntKind.wrap .i64 (y108 + (1 : Int))), a2, (IntKind.wrap .i64 (a3 - (1 : Int))), ()) with
                            | none => none
                            | some (y112, _) => some (.inl (y112, a1, y108, (IntKind.wrap .i64 (a3 - (1 : Int))), (ile x110 (IntKind.wrap .i64 (a2 - y108))), y109, ()))
                | false => match (ilt (0 : Int) a1) with
                  | true => match idx y3 (IntKind.wrap .i64 (a1 - (1 : Int))) with
                    | none => none
                    | some x113 => match idx y3 y4 with
                      | none => none
                      | some x114 => match with1 ((dget y3 (dnat (IntKind.wrap .i64 (a1 - (1 : Int)))) ([] : List (Int))), (dget y3 (dnat y4) ([] : List (Int))), ()) with
                        | none => none
                        | some (y115, _) => match (!(ilt y115 (0 : Int))) with
                          | true => match partEqL (y3, a1, a2, y4, ()) with
                            | none => none
                            | some (y116, y117, _) => some (.inl (y116, y117, a2, (IntKind.wrap .i64 (a3 - (1 : Int))), a4, a5, ()))
                          | false => match partL (y3, a1, a2, y4, ()) with
                            | none => none
                            | some (y118, y119, y120, _) => match quo? .i64 (IntKind.wrap .i64 (a2 - a1)) (8 : Int) with
                              | none => none
                              | some x121 => match (ilt (IntKind.wrap .i64 (y119 - a1)) (IntKind.wrap .i64 (a2 - y119))) with
                                | true => match self (y118, a1, y119, (IntKind.wrap .i64 (a3 - (1 : Int))), ()) with
                                  | none => none
                                  | some (y122, _) => some (.inl (y122, (IntKind.wrap .i64 (y119 + (1 : Int))), a2, (IntKind.wrap .i64 (a3 - (1 : Int))), (ile x121 (IntKind.wrap .i64 (y119 - a1))), y120, ()))
                                | false => match self (y118, (IntKind.wrap .i64 (y119 + (1 : Int))), a2, (IntKind.wrap .i64 (a3 - (1 : Int))), ()) with
                                  | none => none
                                  | some (y123, _) => some (.inl (y123, a1, y119, (IntKind.wrap .i64 (a3 - (1 : Int))), (ile x121 (IntKind.wrap .i64 (a2 - y119))), y120, ()))
                  | false => match partL (y3, a1, a2, y4, ()) with
                    | none => none
                    | some (y124, y125, y126, _) => match quo? .i64 (IntKind.wrap .i64 (a2 - a1)) (8 : Int) with
                      | none => none
                      | some x127 => match (ilt (IntKind.wrap .i64 (y125 - a1)) (IntKind.wrap .i64 (a2 - y125))) with
                        | true => match self (y124, a1, y125, (IntKind.wrap .i64 (a3 - (1 : Int))), ()) with
                          | none => none
                          | some (y128, _) => some (.inl (y128, (IntKind.wrap .i64 (y125 + (1 : Int))), a2, (IntKind.wrap .i64 (a3 - (1 : Int))), (ile x127 (IntKind.wrap .i64 (y125 - a1))), y126, ()))
                        | false => match self (y124, (IntKind.wrap .i64 (y125 + (1 : Int))), a2, (IntKind.wrap .i64 (a3 - (1 : Int))), ()) with
                          | none => none
                          | some (y129, _) => some (.inl (y129, a1, y125, (IntKind.wrap .i64 (a3 - (1 : Int))), (ile x127 (IntKind.wrap .i64 (a2 - y125))), y126, ()))
              | false => match (ilt (0 : Int) a1) with
                | true => match idx y3 (IntKind.wrap .i64 (a1 - (1 : Int))) with
                  | none => none
                  | some x130 => match idx y3 y4 with
                    | none => none
                    | some x131 => match with1 ((dget y3 (dnat (IntKind.wrap .i64 (a1 - (1 : Int)))) ([] : List (Int))), (dget y3 (dnat y4) ([] : List (Int))), ()) with
                      | none => none
                      | some (y132, _) => match (!(ilt y132 (0 : Int))) with
                        | true => match partEqL (y3, a1, a2, y4, ()) with
                          | none => none
                          | some (y133, y134, _) => some (.inl (y133, y134, a2, (IntKind.wrap .i64 (a3 - (1 : Int))), a4, a5, ()))
                        | false => match partL (y3, a1, a2, y4, ()) with
                          | none => none
                          | some (y135, y136, y137, _) => match quo? .i64 (IntKind.wrap .i64 (a2 - a1)) (8 : Int) with
                            | none => none
                            | some x138 => match (ilt (IntKind.wrap .i64 (y136 - a1)) (IntKind.wrap .i64 (a2 - y136))) with
                              | true => match self (y135, a1, y136, (IntKind.wrap .i64 (a3 - (1 : Int))), ()) with
                                | none => none
                                | some (y139, _) => some (.inl (y139, (IntKind.wrap .i64 (y136 + (1 : Int))), a2, (IntKind.wrap .i64 (a3 - (1 : Int))), (ile x138 (IntKind.wrap .i64 (y136 - a1))), y137, ()))
                              | false => match self (y135, (IntKind.wrap .i64 (y136 + (1 : Int))), a2, (IntKind.wrap .i64 (a3 - (1 : Int))), ()) with
                                | none => none
                                | some (y140, _) => some (.inl (y140, a1, y136, (IntKind.wrap .i64 (a3 - (1 : Int))), (ile x138 (IntKind.wrap .i64 (a2 - y136))), y137, ()))
                | false => match partL (y3, a1, a2, y4, ()) with
                  | none => none
                  | some (y141, y142, y143, _) => match quo? .i64 (IntKind.wrap .i64 (a2 - a1)) (8 : Int) with
                    | none => none
                    | some x144 => match (ilt (IntKind.wrap .i64 (y142 - a1)) (IntKind.wrap .i64 (a2 - y142))) with
                      | true => match self (y141, a1, y142, (IntKind.wrap .i64 (a3 - (1 : Int))), ()) with
                        | none => none
                        | some (y145, _) => some (.inl (y145, (IntKind.wrap .i64 (y142 + (1 : Int))), a2, (IntKind.wrap .i64 (a3 - (1 : Int))), (ile x144 (IntKind.wrap .i64 (y142 - a1))), y143, ()))
                      | false => match self (y141, (IntKind.wrap .i64 (y142 + (1 : Int))), a2, (IntKind.wrap .i64 (a3 - (1 : Int))), ()) with
                        | none => none
                        | some (y146, _) => some (.inl (y146, a1, y142, (IntKind.wrap .i64 (a3 - (1 : Int))), (ile x144 (IntKind.wrap .i64 (a2 - y142))), y143, ()))
      | false => match pivotL (a0, a1, a2, ()) with
        | none => none
        | some (y147, y148, y149, _) => match (ieq y149 (2 : Int)) with
          | true => match revL (y147, a1, a2, ()) with
            | none => none
            | some (y150, _) => match a4 with
              | true => match a5 with
                | true => match (ieq (1 : Int) (1 : Int)) with
                  | true => match partInsL (y150, a1, a2, ()) with
                    | none => none
                    | some (y151, y152, _) => match y152 with
                      | true => some (.inr (.inl (y151, ())))
                      | false => match (ilt (0 : Int) a1) with
                        | true => match idx y151 (IntKind.wrap .i64 (a1 - (1 : Int))) with
                          | none => none
                          | some x153 => match idx y151 (IntKind.wrap .i64 ((IntKind.wrap .i64 (a2 - (1 : Int))) - (IntKind.wrap .i64 (y148 - a1)))) with
                            | none => none
                            | some x154 => match with1 ((dget y151 (dnat (IntKind.wrap .i64 (a1 - (1 : Int)))) ([] : List (Int))), (dget y151 (dnat (IntKind.wrap .i64 ((IntKind.wrap .i64 (a2 - (1 : Int))) - (IntKind.wrap .i64 (y148 - a1))))) ([] : List (Int))), ()) with
                              | none => none
                              | some (y155, _) => match (!(ilt y155 (0 : Int))) with
                                | true => match partEqL (y151, a1, a2, (IntKind.wrap .i64 ((IntKind.wrap .i64 (a2 - (1 : Int))) - (IntKind.wrap .i64 (y148 - a1)))), ()) with
                                  | none => none
                                  | some (y156, y157, _) => some (.inl (y156, y157, a2, a3, a4, a5, ()))
                                | false => match partL (y151, a1, a2, (IntKind.wrap .i64 ((IntKind.wrap .i64 (a2 - (1 : Int))) - (IntKind.wrap .i64 (y148 - a1)))), ()) with
                                  | none => none
                                  | some (y158, y159, y160, _) => match quo? .i64 (IntKind.wrap .i64 (a2 - a1)) (8 : Int) with
                                    | none => none
                                    | some x161 => match (ilt (IntKind.wrap .i64 (y159 - a1)) (IntKind.wrap .i64 (a2 - y159))) with
                                      | true => match self (y158, a1, y159, a3, ()) with
                                        | none => none
                                        | some (y162, _) => some (.inl (y162, (IntKind.wrap .i64 (y159 + (1 : Int))), a2, a3, (ile x161 (IntKind.wrap .i64 (y159 - a1))), y160, ()))
                                      | false => match self (y158, (IntKind.wrap .i64 (y159 + (1 : Int))), a2, a3, ()) with
                                        | none => none
                                        | some (y163, _) => some (.inl (y163, a1, y159, a3, (ile x161 (IntKind.wrap .i64 (a2 - y159))), y160, ()))
                        | false => match partL (y151, a1, a2, (IntKind.wrap .i64 ((IntKind.wrap .i64 (a2 - (1 : Int))) - (IntKind.wrap .i64 (y148 - a1)))), ()) with
                          | none => none
                          | some (y164, y165, y166, _) => match quo? .i64 (IntKind.wrap .i64 (a2 - a1)) (8 : Int) with
                            | none => none
                            | some x167 => match (ilt (IntKind.wrap .i64 (y165 - a1)) (IntKind.wrap .i64 (a2 - y165))) with
                              | true => match self (y164, a1, y165, a3, ()) with
                                | none => none
                                | some (y168, _) => some (.inl (y168, (IntKind.wrap .i64 (y165 + (1 : Int))), a2, a3, (ile x167 (IntKind.wrap .i64 (y165 - a1))), y166, ()))
                              | false => match self (y164, (IntKind.wrap .i64 (y165 + (1 : Int))), a2, a3, ()) with
                                | none => none
                                | some (y169, _) => some (.inl (y169, a1, y165, a3, (ile x167 (IntKind.wrap .i64 (a2 - y165))), y166, ()))
                  | false => match (ilt (0 : Int) a1) with
                    | true => match idx y150 (IntKind.wrap .i64 (a1 - (1 : Int))) with
                      | none => none
                      | some x170 => match idx y150 (IntKind.wrap .i64 ((IntKind.wrap .i64 (a2 - (1 : Int))) - (IntKind.wrap .i64 (y148 - a1)))) with
                        | none => none
                        | some x171 => match with1 ((dget y150 (dnat (IntKind.wrap .i64 (a1 - (1 : Int)))) ([] : List (Int))), (dget y150 (dnat (IntKind.wrap .i64 ((IntKind.wrap .i64 (a2 - (1 : Int))) - (IntKind.wrap .i64 (y148 - a1))))) ([] : List (Int))), ()) with
                          | none => none
                          | some (y172, _) => match (!(ilt y172 (0 : Int))) with
                            | true => match partEqL (y150, a1, a2, (IntKind.wrap .i64 ((IntKind.wrap .i64 (a2 - (1 : Int))) - (IntKind.wrap .i64 (y148 - a1)))), ()) with
                              | none => none
                              | some (y173, y174, _) => some (.inl (y173, y174, a2, a3, a4, a5, ()))
                            | false => match partL (y150, a1, a2, (IntKind.wrap .i64 ((IntKind.wrap .i64 (a2 - (1 : Int))) - (IntKind.wrap .i64 (y148 - a1)))), ()) with
                              | none => none
                              | some (y175, y176, y177, _) => match quo? .i64 (IntKind.wrap .i64 (a2 - a1)) (8 : Int) with
                                | none => none
                                | some x178 => match (ilt (IntKind.wrap .i64 (y176 - a1)) (IntKind.wrap .i64 (a2 - y176))) with
                                  | true => match self (y175, a1, y176, a3, ()) with
                                    | none => none
                                    | some (y179, _) => some (.inl (y179, (IntKind.wrap .i64 (y176 + (1 : Int))), a2, a3, (ile x178 (IntKind.wrap .i64 (y176 - a1))), y177, ()))
                                  | false => match self (y175, (IntKind.wrap .i64 (y176 + (1 : Int))), a2, a3, ()) with
                                    | none => none
                                    | some (y180, _) => some (.inl (y180, a1, y176, a3, (ile x178 (IntKind.wrap .i64 (a2 - y176))), y177, ()))
                    | false => match partL (y150, a1, a2, (IntKind.wrap .i64 ((IntKind.wrap .i64 (a2 - (1 : Int))) - (IntKind.wrap .i64 (y148 - a1)))), ()) with
                      | none => none
                      | some (y181, y182, y183, _) => match quo? .i64 (IntKind.wrap .i64 (a2 - a1)) (8 : Int) with
                        | none => none
                        | some x184 => match (ilt (IntKind.wrap .i64 (y182 - a1)) (IntKind.wrap .i64 (a2 - y182))) with
                          | true => match self (y181, a1, y182, a3, ()) with
                            | none => none
                            | some (y185, _) => some (.inl (y185, (IntKind.wrap .i64 (y182 + (1 : Int))), a2, a3, (ile x184 (IntKind.wrap .i64 (y182 - a1))), y183, ()))
                          | false => match self (y181, (IntKind.wrap .i64 (y182 + (1 : Int))), a2, a3, ()) with
                            | none => none
                            | some (y186, _) => some (.inl (y186, a1, y182, a3, (ile x184 (IntKind.wrap .i64 (a2 - y182))), y183, ()))
                | false => match (ilt (0 : Int) a1) with
                  | true => match idx y150 (IntKind.wrap .i64 (a1 - (1 : Int))) with
                    | none => none
                    | some x187 => match idx y150 (IntKind.wrap .i64 ((IntKind.wrap .i64 (a2 - (1 : Int))) - (IntKind.wrap .i64 (y148 - a1)))) with
                      | none => none
                      | some x188 => match with1 ((dget y150 (dnat (IntKind.wrap .i64 (a1 - (1 : Int)))) ([] : List (Int))), (dget y150 (dnat (IntKind.wrap .i64 ((IntKind.wrap .i64 (a2 - (1 : Int))) - (IntKind.wrap .i64 (y148 - a1))))) ([] : List (Int))), ()) with
                        | none => none
                        | some (y189, _) => match (!(ilt y189 (0 : Int))) with
                          | true => match partEqL (y150, a1, a2, (IntKind.wrap .i64 ((IntKind.wrap .i64 (a2 - (1 : Int))) - (IntKind.wrap .i64 (y148 - a1)))), ()) with
                            | none => none
                            | some (y190, y191, _) => some (.inl (y190, y191, a2, a3, a4, a5, ()))
                          | false => match partL (y150, a1, a2, (IntKind.wrap .i64 ((IntKind.wrap .i64 (a2 - (1 : Int))) - (IntKind.wrap .i64 (y148 - a1)))), ()) with
                            | none => none
                            | some (y192, y193, y194, _) => match quo? .i64 (IntKind.wrap .i64 (a2 - a1)) (8 : Int) with
                              | none => none
                              | some x195 => match (ilt (IntKind.wrap .i64 (y193 - a1)) (IntKind.wrap .i64 (a2 - y193))) with
                                | true => match self (y192, a1, y193, a3, ()) with
                                  | none => none
                                  | some (y196, _) => some (.inl (y196, (IntKind.wrap .i64 (y193 + (1 : Int))), a2, a3, (ile x195 (IntKind.wrap .i64 (y193 - a1))), y194, ()))
                                | false => match self (y192, (IntKind.wrap .i64 (y193 + (1 : Int))), a2, a3, ()) with
                                  | none => none
                                  | some (y197, _) => some (.inl (y197, a1, y193, a3, (ile x195 (IntKind.wrap .i64 (a2 - y193))), y194, ()))
                  | false => match partL (y150, a1, a2, (IntKind.wrap .i64 ((IntKind.wrap .i64 (a2 - (1 : Int))) - (IntKind.wrap .i64 (y148 - a1)))), ()) with
                    | none => none
                    | some (y198, y199, y200, _) => match quo? .i64 (IntKind.wrap .i64 (a2 - a1)) (8 : Int) with
                      | none => none
                      | some x201 => match (ilt (IntKind.wrap .i64 (y199 - a1)) (IntKind.wrap .i64 (a2 - y199))) with
                        | true => match self (y198, a1, y199, a3, ()) with
                          | none => none
                          | some (y202, _) => some (.inl (y202, (IntKind.wrap .i64 (y199 + (1 : Int))), a2, a3, (ile x201 (IntKind.wrap .i64 (y199 - a1))), y200, ()))
                        | false => match self (y198, (IntKind.wrap .i64 (y199 + (1 : Int))), a2, a3, ()) with
                          | none => none
                          | some (y203, _) => some (.inl (y203, a1, y199, a3, (ile x201 (IntKind.wrap .i64 (a2 - y199))), y200, ()))
              | false => match (ilt (0 : Int) a1) with
                | true => match idx y150 (IntKind.wrap .i64 (a1 - (1 : Int))) with
                  | none => none
                  | some x204 => match idx y150 (IntKind.wrap .i64 ((IntKind.wrap .i64 (a2 - (1 : Int))) - (IntKind.wrap .i64 (y148 - a1)))) with
                    | none => none
                    | some x205 => match with1 ((dget y150 (dnat (IntKind.wrap .i64 (a1 - (1 : Int)))) ([] : List (Int))), (dget y150 (dnat (IntKind.wrap .i64 ((IntKind.wrap .i64 (a2 - (1 : Int))) - (IntKind.wrap .i64 (y148 - a1))))) ([] : List (Int))), ()) with
                      | none => none
                      | some (y206, _) => match (!(ilt y206 (0 : Int))) with
                        | true => match partEqL (y150, a1, a2, (IntKind.wrap .i64 ((IntKind.wrap .i64 (a2 - (1 : Int))) - (IntKind.wrap .i64 (y148 - a1)))), ()) with
                          | none => none
                          | some (y207, y208, _) => some (.inl (y207, y208, a2, a3, a4, a5, ()))
                        | false => match partL (y150, a1, a2, (IntKind.wrap .i64 ((IntKind.wrap .i64 (a2 - (1 : Int))) - (IntKind.wrap .i64 (y148 - a1)))), ()) with
                          | none => none
                          | some (y209, y210, y211, _) => match quo? .i64 (IntKind.wrap .i64 (a2 - a1)) (8 : Int) with
                            | none => none
                            | some x212 => match (ilt (IntKind.wrap .i64 (y210 - a1)) (IntKind.wrap .i64 (a2 - y210))) with
                              | true => match self (y209, a1, y210, a3, ()) with
                                | none => none
                                | some (y213, _) => some (.inl (y213, (IntKind.wrap .i64 (y210 + (1 : Int))), a2, a3, (ile x212 (IntKind.wrap .i64 (y210 - a1))), y211, ()))
                              | false => match self (y209, (IntKind.wrap .i64 (y210 + (1 : Int))), a2, a3, ()) with
                                | none => none
                                | some (y214, _) => some (.inl (y214, a1, y210, a3, (ile x212 (IntKind.wrap .i64 (a2 - y210))), y211, ()))
                | false => match partL (y150, a1, a2, (IntKind.wrap .i64 ((IntKind.wrap .i64 (a2 - (1 : Int))) - (IntKind.wrap .i64 (y148 - a1)))), ()) with
                  | none => none
                  | some (y215, y216, y217, _) => match quo? .i64 (IntKind.wrap .i64 (a2 - a1)) (8 : Int) with
                    | none => none
                    | some x218 => match (ilt (IntKind.wrap .i64 (y216 - a1)) (IntKind.wrap .i64 (a2 - y216))) with
                      | true => match self (y215, a1, y216, a3, ()) with
                        | none => none
                        | some (y219, _) => some (.inl (y219, (IntKind.wrap .i64 (y216 + (1 : Int))), a2, a3, (ile x218 (IntKind.wrap .i64 (y216 - a1))), y217, ()))
                      | false => match self (y215, (IntKind.wrap .i64 (y216 + (1 : Int))), a2, a3, ()) with
                        | none => none
                        | some (y220, _) => some (.inl (y220, a1, y216, a3, (ile x218 (IntKind.wrap .i64 (a2 - y216))), y217, ()))
          | false => match a4 with
            | true => match a5 with
              | true => match (ieq y149 (1 : Int)) with
                | true => match partInsL (y147, a1, a2, ()) with
                  | none => none
                  | some (y221, y222, _) => match y222 with
                    | true => some (.inr (.inl (y221, ())))
                    | false => match (ilt (0 : Int) a1) with
                      | true => match idx y221 (IntKind.wrap .i64 (a1 - (1 : Int))) with
                        | none => none
                        | some x223 => match idx y221 y148 with
                          | none => none
                          | some x224 => match with1 ((dget y221 (dnat (IntKind.wrap .i64 (a1 - (1 : Int)))) ([] : List (Int))), (dget y221 (dnat y148) ([] : List (Int))), ()) with
                            | none => none
                            | some (y225, _) => match (!(ilt y225 (0 : Int))) with
                              | true => match partEqL (y221, a1, a2, y148, ()) with
                                | none => none
                                | some (y226, y227, _) => some (.inl (y226, y227, a2, a3, a4, a5, ()))
                              | false => match partL (y221, a1, a2, y148, ()) with
                                | none => none
                                | some (y228, y229, y230, _) => match quo? .i64 (IntKind.wrap .i64 (a2 - a1)) (8 : Int) with
                                  | none => none
                                  | some x231 => match (ilt (IntKind.wrap .i64 (y229 - a1)) (IntKind.wrap .i64 (a2 - y229))) with
                                    | true => match self (y228, a1, y229, a3, ()) with
                                      | none => none
                                      | some (y232, _) => some (.inl (y232, (IntKind.wrap .i64 (y229 + (1 : Int))), a2, a3, (ile x231 (IntKind.wrap .i64 (y229 - a1))), y230, ()))
                                    | false => match self (y228, (IntKind.wrap .i64 (y229 + (1 : Int))), a2, a3, ()) with
                                      | none => none
                                      | some (y233, _) => some (.inl (y233, a1, y229, a3, (ile x231 (IntKind.wrap .i64 (a2 - y229))), y230, ()))
                      | false => match partL (y221, a1, a2, y148, ()) with
                        | none => none
                        | some (y234, y235, y236, _) => match quo? .i64 (IntKind.wrap .i64 (a2 - a1)) (8 : Int) with
                          | none => none
                          | some x237 => match (ilt (IntKind.wrap .i64 (y235 - a1)) (IntKind.wrap .i64 (a2 - y235))) with
                            | true => match self (y234, a1, y235, a3, ()) with
                              | none => none
                              | some (y238, _) => some (.inl (y238, (IntKind.wrap .i64 (y235 + (1 : Int))), a2, a3, (ile x237 (IntKind.wrap .i64 (y235 - a1))), y236, ()))
                            | false => match self (y234, (IntKind.wrap .i64 (y235 + (1 : Int))), a2, a3, ()) with
                              | none => none
                              | some (y239, _) => some (.inl (y239, a1, y235, a3, (ile x237 (IntKind.wrap .i64 (a2 - y235))), y236, ()))
                | false => match (ilt (0 : Int) a1) with
                  | true => match idx y147 (IntKind.wrap .i64 (a1 - (1 : Int))) with
                    | none => none
                    | some x240 => match idx y147 y148 with
                      | none => none
                      | some x241 => match with1 ((dget y147 (dnat (IntKind.wrap .i64 (a1 - (1 : Int)))) ([] : List (Int))), (dget y147 (dnat y148) ([] : List (Int))), ()) with
                        | none => none
                        | some (y242, _) => match (!(ilt y242 (0 : Int))) with
                          | true => match partEqL (y147, a1, a2, y148, ()) with
                            | none => none
                            | some (y243, y244, _) => some (.inl (y243, y244, a2, a3, a4, a5, ()))
                          | false => match partL (y147, a1, a2, y148, ()) with
                            | none => none
                            | some (y245, y246, y247, _) => match quo? .i64 (IntKind.wrap .i64 (a2 - a1)) (8 : Int) with
                              | none => none
                              | some x248 => match (ilt (IntKind.wrap .i64 (y246 - a1)) (IntKind.wrap .i64 (a2 - y246))) with
                                | true => match self (y245, a1, y246, a3, ()) with
                                  | none => none
                                  | some (y249, _) => some (.inl (y249, (IntKind.wrap .i64 (y246 + (1 : Int))), a2, a3, (ile x248 (IntKind.wrap .i64 (y246 - a1))), y247, ()))
                                | false => match self (y245, (IntKind.wrap .i64 (y246 + (1 : Int))), a2, a3, ()) with
                                  | none => none
                                  | some (y250, _) => some (.inl (y250, a1, y246, a3, (ile x248 (IntKind.wrap .i64 (a2 - y246))), y247, ()))
                  | false => match partL (y147, a1, a2, y148, ()) with
                    | none => none
                    | some (y251, y252, y253, _) => match quo? .i64 (IntKind.wrap .i64 (a2 - a1)) (8 : Int) with
                      | none => none
                      | some x254 => match (ilt (IntKind.wrap .i64 (y252 - a1)) (IntKind.wrap .i64 (a2 - y252))) with
                        | true => match self (y251, a1, y252, a3, ()) with
                          | none => none
                          | some (y255, _) => some (.inl (y255, (IntKind.wrap .i64 (y252 + (1 : Int))), a2, a3, (ile x254 (IntKind.wrap .i64 (y252 - a1))), y253, ()))
                        | false => match self (y251, (IntKind.wrap .i64 (y252 + (1 : Int))), a2, a3, ()) with
                          | none => none
                          | some (y256, _) => some (.inl (y256, a1, y252, a3, (ile x254 (IntKind.wrap .i64 (a2 - y252))), y253, ()))
              | false => match (ilt (0 : Int) a1) with
                | true => match idx y147 (IntKind.wrap .i64 (a1 - (1 : Int))) with
                  | none => none
                  | some x257 => match idx y147 y148 with
                    | none => none
                    | some x258 => match with1 ((dget y147 (dnat (IntKind.wrap .i64 (a1 - (1 : Int)))) ([] : List (Int))), (dget y147 (dnat y148) ([] : List (Int))), ()) with
                      | none => none
                      | some (y259, _) => match (!(ilt y259 (0 : Int))) with
                        | true => match partEqL (y147, a1, a2, y148, ()) with
                          | none => none
                          | some (y260, y261, _) => some (.inl (y260, y261, a2, a3, a4, a5, ()))
                        | false => match partL (y147, a1, a2, y148, ()) with
                          | none => none
                          | some (y262, y263, y264, _) => match quo? .i64 (IntKind.wrap .i64 (a2 - a1)) (8 : Int) with
                            | none => none
                            | some x265 => match (ilt (IntKind.wrap .i64 (y263 - a1)) (IntKind.wrap .i64 (a2 - y263))) with
                              | true => match self (y262, a1, y263, a3, ()) with
                                | none => none
                                | some (y266, _) => some (.inl (y266, (IntKind.wrap .i64 (y263 + (1 : Int))), a2, a3, (ile x265 (IntKind.wrap .i64 (y263 - a1))), y264, ()))
                              | false => match self (y262, (IntKind.wrap .i64 (y263 + (1 : Int))), a2, a3, ()) with
                                | none => none
                                | some (y267, _) => some (.inl (y267, a1, y263, a3, (ile x265 (IntKind.wrap .i64 (a2 - y263))), y264, ()))
                | false => match partL (y147, a1, a2, y148, ()) with
                  | none => none
                  | some (y268, y269, y270, _) => match quo? .i64 (IntKind.wrap .i64 (a2 - a1)) (8 : Int) with
                    | none => none
                    | some x271 => match (ilt (IntKind.wrap .i64 (y269 - a1)) (IntKind.wrap .i64 (a2 - y269))) with
                      | true => match self (y268, a1, y269, a3, ()) with
                        | none => none
                        | some (y272, _) => some (.inl (y272, (IntKind.wrap .i64 (y269 + (1 : Int))), a2, a3, (ile x271 (IntKind.wrap .i64 (y269 - a1))), y270, ()))
                      | false => match self (y268, (IntKind.wrap .i64 (y269 + (1 : Int))), a2, a3, ()) with
                        | none => none
                        | some (y273, _) => some (.inl (y273, a1, y269, a3, (ile x271 (IntKind.wrap .i64 (a2 - y269))), y270, ()))
            | false => match (ilt (0 : Int) a1) with
              | true => match idx y147 (IntKind.wrap .i64 (a1 - (1 : Int))) with
                | none => none
                | some x274 => match idx y147 y148 with
                  | none => none
                  | some x275 => match with1 ((dget y147 (dnat (IntKind.wrap .i64 (a1 - (1 : Int)))) ([] : List (Int))), (dget y147 (dnat y148) ([] : List (Int))), ()) with
                    | none => none
                    | some (y276, _) => match (!(ilt y276 (0 : Int))) with
                      | true => match partEqL (y147, a1, a2, y148, ()) with
                        | none => none
                        | some (y277, y278, _) => some (.inl (y277, y278, a2, a3, a4, a5, ()))
                      | false => match partL (y147, a1, a2, y148, ()) with
                        | none => none
                        | some (y279, y280, y281, _) => match quo? .i64 (IntKind.wrap .i64 (a2 - a1)) (8 : Int) with
                          | none => none
                          | some x282 => match (ilt (IntKind.wrap .i64 (y280 - a1)) (IntKind.wrap .i64 (a2 - y280))) with
                            | true => match self (y279, a1, y280, a3, ()) with
                              | none => none
                              | some (y283, _) => some (.inl (y283, (IntKind.wrap .i64 (y280 + (1 : Int))), a2, a3, (ile x282 (IntKind.wrap .i64 (y280 - a1))), y281, ()))
                            | false => match self (y279, (IntKind.wrap .i64 (y280 + (1 : Int))), a2, a3, ()) with
                              | none => none
                              | some (y284, _) => some (.inl (y284, a1, y280, a3, (ile x282 (IntKind.wrap .i64 (a2 - y280))), y281, ()))
              | false => match partL (y147, a1, a2, y148, ()) with
                | none => none
                | some (y285, y286, y287, _) => match quo? .i64 (IntKind.wrap .i64 (a2 - a1)) (8 : Int) with
                  | none => none
                  | some x288 => match (ilt (IntKind.wrap .i64 (y286 - a1)) (IntKind.wrap .i64 (a2 - y286))) with
                    | true => match self (y285, a1, y286, a3, ()) with
                      | none => none
                      | some (y289, _) => some (.inl (y289, (IntKind.wrap .i64 (y286 + (1 : Int))), a2, a3, (ile x288 (IntKind.wrap .i64 (y286 - a1))), y287, ()))
                    | false => match self (y285, (IntKind.wrap .i64 (y286 + (1 : Int))), a2, a3, ()) with
                      | none => none
                      | some (y290, _) => some (.inl (y290, a1, y286, a3, (ile x288 (IntKind.wrap .i64 (a2 - y286))), y287, ()))
def pdqL_d (self : (List (List Int) × Int × Int × Int × Unit) → Option ((List (List Int) × Unit))) : (List (List Int) × Int × Int × Int × Unit) → Option ((List (List Int) × Unit)) := fun (a0, a1, a2, a3, _) =>
  match iterL (pdqL_s0 self) many (a0, a1, a2, a3, true, true, ()) with
  | none => none
  | some r => match r with
    | .inl (o0, _) => some (o0, ())
    | .inr _ => none
def pdqL_f : Nat → (List (List Int) × Int × Int × Int × Unit) → Option ((List (List Int) × Unit))
  | 0, _ => none
  | n + 1, v => pdqL_d (pdqL_f n) v
def pdqL (v : (List (List Int) × Int × Int × Int × Unit)) : Option ((List (List Int) × Unit)) := lock (pdqL_f 100 v)
theorem pdqL_eq (v : (List (List Int) × Int × Int × Int × Unit)) : pdqL v = pdqL_f 100 v := lock_eq _
def pdqL_s0C (self : (List (List Int) × Int × Int × Int × Unit) → Option ((List (List Int) × Unit))) : (List (List Int) × Int × Int × Int × Bool × Bool × Unit) → Option ((List (List Int) × Int × Int × Int × Bool × Bool × Unit) ⊕ (List (List Int) × Unit) ⊕ Unit) := fun (a0, a1, a2, a3, a4, a5, _) =>
  match (ileR (IntKind.wrap .i64 (a2 - a1)) (12 : Int)) with
  | true => match insLC (a0, a1, a2, ()) with
    | none => none
    | some (y0, _) => some (.inr (.inl (y0, ())))
  | false => match (ieqR a3 (0 : Int)) with
    | true => match heapLC (a0, a1, a2, ()) with
      | none => none
      | some (y1, _) => some (.inr (.inl (y1, ())))
    | false => match (!a4) with
      | true => match breakLC (a0, a1, a2, ()) with
        | none => none
        | some (y2, _) => match pivotLC (y2, a1, a2, ()) with
          | none => none
          | some (y3, y4, y5, _) => match (ieqR y5 (2 : Int)) with
            | true => match revLC (y3, a1, a2, ()) with
              | none => none
              | some (y6, _) => match a4 with
                | true => match a5 with
                  | true => match (ieqR (1 : Int) (1 : Int)) with
                    | true => match partInsLC (y6, a1, a2, ()) with
                      | none => none
                      | some (y7, y8, _) => match y8 with
                        | true => some (.inr (.inl (y7, ())))
                        | false => match (iltR (0 : Int) a1) with
                          | true => match idxR y7 (IntKind.wrap .i64 (a1 - (1 : Int))) with
                            | none => none
                            | some x9 => match idxR y7 (IntKind.wrap .i64 ((IntKind.wrap .i64 (a2 - (1 : Int))) - (IntKind.wrap .i64 (y4 - a1)))) with
                              | none => none
                              | some x10 => match with1C ((dget y7 (dnat (IntKind.wrap .i64 (a1 - (1 : Int)))) ([] : List (Int))), (dget y7 (dnat (IntKind.wrap .i64 ((IntKind.wrap .i64 (a2 - (1 : Int))) - (IntKind.wrap .i64 (y4 - a1))))) ([] : List (Int))), ()) with
                                | none => none
                                | some (y11, _) => match (!(iltR y11 (0 : Int))) with
                                  | true => match partEqLC (y7, a1, a2, (IntKind.wrap .i64 ((IntKind.wrap .i64 (a2 - (1 : Int))) - (IntKind.wrap .i64 (y4 - a1)))), ()) with
                                    | none => none
                                    | some (y12, y13, _) => some (.inl (y12, y13, a2, (IntKind.wrap .i64 (a3 - (1 : Int))), a4, a5, ()))
                                  | false => match partLC (y7, a1, a2, (IntKind.wrap .i64 ((IntKind.wrap .i64 (a2 - (1 : Int))) - (IntKind.wrap .i64 (y4 - a1)))), ()) with
                                    | none => none
                                    | some (y14, y15, y16, _) => match quoR .i64 (IntKind.wrap .i64 (a2 - a1)) (8 : Int) with
                                      | none => none
                                      | some x17 => match (iltR (IntKind.wrap .i64 (y15 - a1)) (IntKind.wrap .i64 (a2 - y15))) with
                                        | true => match self (y14, a1, y15, (IntKind.wrap .i64 (a3 - (1 : Int))), ()) with
                                          | none => none
                                          | some (y18, _) => some (.inl (y18, (IntKind.wrap .i64 (y15 + (1 : Int))), a2, (IntKind.wrap .i64 (a3 - (1 : Int))), (ileR x17 (IntKind.wrap .i64 (y15 - a1))), y16, ()))
                                        | false => match self (y14, (IntKind.wrap .i64 (y15 + (1 : Int))), a2, (IntKind.wrap .i64 (a3 - (1 : Int))), ()) with
                                          | none => none
                                          | some (y19, _) => some (.inl (y19, a1, y15, (IntKind.wrap .i64 (a3 - (1 : Int))), (ileR x17 (IntKind.wrap .i64 (a2 - y15))), y16, ()))
                          | false => match partLC (y7, a1, a2, (IntKind.wrap .i64 ((IntKind.wrap .i64 (a2 - (1 : Int))) - (IntKind.wrap .i64 (y4 - a1)))), ()) with
                            | none => none
                            | some (y20, y21, y22, _) => match quoR .i64 (IntKind.wrap .i64 (a2 - a1)) (8 : Int) with
                              | none => none
                              | some x23 => match (iltR (IntKind.wrap .i64 (y21 - a1)) (IntKind.wrap .i64 (a2 - y21))) with
                                | true => match self (y20, a1, y21, (IntKind.wrap .i64 (a3 - (1 : Int))), ()) with
                                  | none => none
                                  | some (y24, _) => some (.inl (y24, (IntKind.wrap .i64 (y21 + (1 : Int))), a2, (IntKind.wrap .i64 (a3 - (1 : Int))), (ileR x23 (IntKind.wrap .i64 (y21 - a1))), y22, ()))
                                | false => match self (y20, (IntKind.wrap .i64 (y21 + (1 : Int))), a2, (IntKind.wrap .i64 (a3 - (1 : Int))), ()) with
                                  | none => none
                                  | some (y25, _) => some (.inl (y25, a1, y21, (IntKind.wrap .i64 (a3 - (1 : Int))), (ileR x23 (IntKind.wrap .i64 (a2 - y21))), y22, ()))
                    | false => match (iltR (0 : Int) a1) with
                      | true => match idxR y6 (IntKind.wrap .i64 (a1 - (1 : Int))) with
                        | none => none
                        | some x26 => match idxR y6 (IntKind.wrap .i64 ((IntKind.wrap .i64 (a2 - (1 : Int))) - (IntKind.wrap .i64 (y4 - a1)))) with
                          | none => none
                          | some x27 => match with1C ((dget y6 (dnat (IntKind.wrap .i64 (a1 - (1 : Int)))) ([] : List (Int))), (dget y6 (dnat (IntKind.wrap .i64 ((IntKind.wrap .i64 (a2 - (1 : Int))) - (IntKind.wrap .i64 (y4 - a1))))) ([] : List (Int))), ()) with
                            | none => none
                            | some (y28, _) => match (!(iltR y28 (0 : Int))) with
                              | true => match partEqLC (y6, a1, a2, (IntKind.wrap .i64 ((IntKind.wrap .i64 (a2 - (1 : Int))) - (IntKind.wrap .i64 (y4 - a1)))), ()) with
                                | none => none
                                | some (y29, y30, _) => some (.inl (y29, y30, a2, (IntKind.wrap .i64 (a3 - (1 : Int))), a4, a5, ()))
                              | false => match partLC (y6, a1, a2, (IntKind.wrap .i64 ((IntKind.wrap .i64 (a2 - (1 : Int))) - (IntKind.wrap .i64 (y4 - a1)))), ()) with
                                | none => none
                                | some (y31, y32, y33, _) => match quoR .i64 (IntKind.wrap .i64 (a2 - a1)) (8 : Int) with
                                  | none => none
                                  | some x34 => match (iltR (IntKind.wrap .i64 (y32 - a1)) (IntKind.wrap .i64 (a2 - y32))) with
                                    | true => match self (y31, a1, y32, (IntKind.wrap .i64 (a3 - (1 : Int))), ()) with
                                      | none => none
                                      | some (y35, _) => some (.inl (y35, (IntKind.wrap .i64 (y32 + (1 : Int))), a2, (IntKind.wrap .i64 (a3 - (1 : Int))), (ileR x34 (IntKind.wrap .i64 (y32 - a1))), y33, ()))
                                    | false => match self (y31, (IntKind.wrap .i64 (y32 + (1 : Int))), a2, (IntKind.wrap .i64 (a3 - (1 : Int))), ()) with
                                      | none => none
                                      | some (y36, _) => some (.inl (y36, a1, y32, (IntKind.wrap .i64 (a3 - (1 : Int))), (ileR x34 (IntKind.wrap .i64 (a2 - y32))), y33, ()))
                      | false => match partLC (y6, a1, a2, (IntKind.wrap .i64 ((IntKind.wrap .i64 (a2 - (1 : Int))) - (IntKind.wrap .i64 (y4 - a1)))), ()) with
                        | none => none
                        | some (y37, y38, y39, _) => match quoR .i64 (IntKind.wrap .i64 (a2 - a1)) (8 : Int) with
                          | none => none
                          | some x40 => match (iltR (IntKind.wrap .i64 (y38 - a1)) (IntKind.wrap .i64 (a2 - y38))) with
                            | true => match self (y37, a1, y38, (IntKind.wrap .i64 (a3 - (1 : Int))), ()) with
                              | none => none
                              | some (y41, _) => some (.inl (y41, (IntKind.wrap .i64 (y38 + (1 : Int))), a2, (IntKind.wrap .i64 (a3 - (1 : Int))), (ileR x40 (IntKind.wrap .i64 (y38 - a1))), y39, ()))
                            | false => match self (y37, (IntKind.wrap .i64 (y38 + (1 : Int))), a2, (IntKind.wrap .i64 (a3 - (1 : Int))), ()) with
                              | none => none
                              | some (y42, _) => some (.inl (y42, a1, y38, (IntKind.wrap .i64 (a3 - (1 : Int))), (ileR x40 (IntKind.wrap .i64 (a2 - y38))), y39, ()))
                  | false => match (iltR (0 : Int) a1) with
                    | true => match idxR y6 (IntKind.wrap .i64 (a1 - (1 : Int))) with
                      | none => none
                      | some x43 => match idxR y6 (IntKind.wrap .i64 ((IntKind.wrap .i64 (a2 - (1 : Int))) - (IntKind.wrap .i64 (y4 - a1)))) with
                        | none => none
                        | some x44 => match with1C ((dget y6 (dnat (IntKind.wrap .i64 (a1 - (1 : Int)))) ([] : List (Int))), (dget y6 (dnat (IntKind.wrap .i64 ((IntKind.wrap .i64 (a2 - (1 : Int))) - (IntKind.wrap .i64 (y4 - a1))))) ([] : List (Int))), ()) with
                          | none => none
                          | some (y45, _) => match (!(iltR y45 (0 : Int))) with
                            | true => match partEqLC (y6, a1, a2, (IntKind.wrap .i64 ((IntKind.wrap .i64 (a2 - (1 : Int))) - (IntKind.wrap .i64 (y4 - a1)))), ()) with
                              | none => none
                              | some (y46, y47, _) => some (.inl (y46, y47, a2, (IntKind.wrap .i64 (a3 - (1 : Int))), a4, a5, ()))
                            | false => match partLC (y6, a1, a2, (IntKind.wrap .i64 ((IntKind.wrap .i64 (a2 - (1 : Int))) - (IntKind.wrap .i64 (y4 - a1)))), ()) with
                              | none => none
                              | some (y48, y49, y50, _) => match quoR .i64 (IntKind.wrap .i64 (a2 - a1)) (8 : Int) with
                                | none => none
                                | some x51 => match (iltR (IntKind.wrap .i64 (y49 - a1)) (IntKind.wrap .i64 (a2 - y49))) with
                                  | true => match self (y48, a1, y49, (IntKind.wrap .i64 (a3 - (1 : Int))), ()) with
                                    | none => none
                                    | some (y52, _) => some (.inl (y52, (IntKind.wrap .i64 (y49 + (1 : Int))), a2, (IntKind.wrap .i64 (a3 - (1 : Int))), (ileR x51 (IntKind.wrap .i64 (y49 - a1))), y50, ()))
                                  | false => match self (y48, (IntKind.wrap .i64 (y49 + (1 : Int))), a2, (IntKind.wrap .i64 (a3 - (1 : Int))), ()) with
                                    | none => none
                                    | some (y53, _) => some (.inl (y53, a1, y49, (IntKind.wrap .i64 (a3 - (1 : Int))), (ileR x51 (IntKind.wrap .i64 (a2 - y49))), y50, ()))
                    | false => match partLC (y6, a1, a2, (IntKind.wrap .i64 ((IntKind.wrap .i64 (a2 - (1 : Int))) - (IntKind.wrap .i64 (y4 - a1)))), ()) with
                      | none => none
                      | some (y54, y55, y56, _) => match quoR .i64 (IntKind.wrap .i64 (a2 - a1)) (8 : Int) with
                        | none => none
                        | some x57 => match (iltR (IntKind.wrap .i64 (y55 - a1)) (IntKind.wrap .i64 (a2 - y55))) with
                          | true => match self (y54, a1, y55, (IntKind.wrap .i64 (a3 - (1 : Int))), ()) with
                            | none => none
                            | some (y58, _) => some (.inl (y58, (IntKind.wrap .i64 (y55 + (1 : Int))), a2, (IntKind.wrap .i64 (a3 - (1 : Int))), (ileR x57 (IntKind.wrap .i64 (y55 - a1))), y56, ()))
                          | false => match self (y54, (IntKind.wrap .i64 (y55 + (1 : Int))), a2, (IntKind.wrap .i64 (a3 - (1 : Int))), ()) with
                            | none => none
                            | some (y59, _) => some (.inl (y59, a1, y55, (IntKind.wrap .i64 (a3 - (1 : Int))), (ileR x57 (IntKind.wrap .i64 (a2 - y55))), y56, ()))
                | false => match (iltR (0 : Int) a1) with
                  | true => match idxR y6 (IntKind.wrap .i64 (a1 - (1 : Int))) with
                    | none => none
                    | some x60 => match idxR y6 (IntKind.wrap .i64 ((IntKind.wrap .i64 (a2 - (1 : Int))) - (IntKind.wrap .i64 (y4 - a1)))) with
                      | none => none
                      | some x61 => match with1C ((dget y6 (dnat (IntKind.wrap .i64 (a1 - (1 : Int)))) ([] : List (Int))), (dget y6 (dnat (IntKind.wrap .i64 ((IntKind.wrap .i64 (a2 - (1 : Int))) - (IntKind.wrap .i64 (y4 - a1))))) ([] : List (Int))), ()) with
                        | none => none
                        | some (y62, _) => match (!(iltR y62 (0 : Int))) with
                          | true => match partEqLC (y6, a1, a2, (IntKind.wrap .i64 ((IntKind.wrap .i64 (a2 - (1 : Int))) - (IntKind.wrap .i64 (y4 - a1)))), ()) with
                            | none => none
                            | some (y63, y64, _) => some (.inl (y63, y64, a2, (IntKind.wrap .i64 (a3 - (1 : Int))), a4, a5, ()))
                          | false => match partLC (y6, a1, a2, (IntKind.wrap .i64 ((IntKind.wrap .i64 (a2 - (1 : Int))) - (IntKind.wrap .i64 (y4 - a1)))), ()) with
                            | none => none
                            | some (y65, y66, y67, _) => match quoR .i64 (IntKind.wrap .i64 (a2 - a1)) (8 : Int) with
                              | none => none
                              | some x68 => match (iltR (IntKind.wrap .i64 (y66 - a1)) (IntKind.wrap .i64 (a2 - y66))) with
                                | true => match self (y65, a1, y66, (IntKind.wrap .i64 (a3 - (1 : Int))), ()) with
                                  | none => none
                                  | some (y69, _) => some (.inl (y69, (IntKind.wrap .i64 (y66 + (1 : Int))), a2, (IntKind.wrap .i64 (a3 - (1 : Int))), (ileR x68 (IntKind.wrap .i64 (y66 - a1))), y67, ()))
                                | false => match self (y65, (IntKind.wrap .i64 (y66 + (1 : Int))), a2, (IntKind.wrap .i64 (a3 - (1 : Int))), ()) with
                                  | none => none
                                  | some (y70, _) => some (.inl (y70, a1, y66, (IntKind.wrap .i64 (a3 - (1 : Int))), (ileR x68 (IntKind.wrap .i64 (a2 - y66))), y67, ()))
                  | false => match partLC (y6, a1, a2, (IntKind.wrap .i64 ((IntKind.wrap .i64 (a2 - (1 : Int))) - (IntKind.wrap .i64 (y4 - a1)))), ()) with
                    | none => none
                    | some (y71, y72, y73, _) => match quoR .i64 (IntKind.wrap .i64 (a2 - a1)) (8 : Int) with
                      | none => none
                      | some x74 => match (iltR (IntKind.wrap .i64 (y72 - a1)) (IntKind.wrap .i64 (a2 - y72))) with
                        | true => match self (y71, a1, y72, (IntKind.wrap .i64 (a3 - (1 : Int))), ()) with
                          | none => none
                          | some (y75, _) => some (.inl (y75, (IntKind.wrap .i64 (y72 + (1 : Int))), a2, (IntKind.wrap .i64 (a3 - (1 : Int))), (ileR x74 (IntKind.wrap .i64 (y72 - a1))), y73, ()))
                        | false => match self (y71, (IntKind.wrap .i64 (y72 + (1 : Int))), a2, (IntKind.wrap .i64 (a3 - (1 : Int))), ()) with
                          | none => none
                          | some (y76, _) => some (.inl (y76, a1, y72, (IntKind.wrap .i64 (a3 - (1 : Int))), (ileR x74 (IntKind.wrap .i64 (a2 - y72))), y73, ()))
            | false => match a4 with
              | true => match a5 with
                | true => match (ieqR y5 (1 : Int)) with
                  | true => match partInsLC (y3, a1, a2, ()) with
                    | none => none
                    | some (y77, y78, _) => match y78 with
                      | true => some (.inr (.inl (y77, ())))
                      | false => match (iltR (0 : Int) a1) with
                        | true => match idxR y77 (IntKind.wrap .i64 (a1 - (1 : Int))) with
                          | none => none
                          | some x79 => match idxR y77 y4 with
                            | none => none
                            | some x80 => match with1C ((dget y77 (dnat (IntKind.wrap .i64 (a1 - (1 : Int)))) ([] : List (Int))), (dget y77 (dnat y4) ([] : List (Int))), ()) with
                              | none => none
                              | some (y81, _) => match (!(iltR y81 (0 : Int))) with
                                | true => match partEqLC (y77, a1, a2, y4, ()) with
                                  | none => none
                                  | some (y82, y83, _) => some (.inl (y82, y83, a2, (IntKind.wrap .i64 (a3 - (1 : Int))), a4, a5, ()))
                                | false => match partLC (y77, a1, a2, y4, ()) with
                                  | none => none
                                  | some (y84, y85, y86, _) => match quoR .i64 (IntKind.wrap .i64 (a2 - a1)) (8 : Int) with
                                    | none => none
                                    | some x87 => match (iltR (IntKind.wrap .i64 (y85 - a1)) (IntKind.wrap .i64 (a2 - y85))) with
                                      | true => match self (y84, a1, y85, (IntKind.wrap .i64 (a3 - (1 : Int))), ()) with
                                        | none => none
                                        | some (y88, _) => some (.inl (y88, (IntKind.wrap .i64 (y85 + (1 : Int))), a2, (IntKind.wrap .i64 (a3 - (1 : Int))), (ileR x87 (IntKind.wrap .i64 (y85 - a1))), y86, ()))
                                      | false => match self (y84, (IntKind.wrap .i64 (y85 + (1 : Int))), a2, (IntKind.wrap .i64 (a3 - (1 : Int))), ()) with
                                        | none => none
                                        | some (y89, _) => some (.inl (y89, a1, y85, (IntKind.wrap .i64 (a3 - (1 : Int))), (ileR x87 (IntKind.wrap .i64 (a2 - y85))), y86, ()))
                        | false => match partLC (y77, a1, a2, y4, ()) with
                          | none => none
                          | some (y90, y91, y92, _) => match quoR .i64 (IntKind.wrap .i64 (a2 - a1)) (8 : Int) with
                            | none => none
                            | some x93 => match (iltR (IntKind.wrap .i64 (y91 - a1)) (IntKind.wrap .i64 (a2 - y91))) with
                              | true => match self (y90, a1, y91, (IntKind.wrap .i64 (a3 - (1 : Int))), ()) with
                                | none => none
                                | some (y94, _) => some (.inl (y94, (IntKind.wrap .i64 (y91 + (1 : Int))), a2, (IntKind.wrap .i64 (a3 - (1 : Int))), (ileR x93 (IntKind.wrap .i64 (y91 - a1))), y92, ()))
                              | false => match self (y90, (IntKind.wrap .i64 (y91 + (1 : Int))), a2, (IntKind.wrap .i64 (a3 - (1 : Int))), ()) with
                                | none => none
                                | some (y95, _) => some (.inl (y95, a1, y91, (IntKind.wrap .i64 (a3 - (1 : Int))), (ileR x93 (IntKind.wrap .i64 (a2 - y91))), y92, ()))
                  | false => match (iltR (0 : Int) a1) with
                    | true => match idxR y3 (IntKind.wrap .i64 (a1 - (1 : Int))) with
                      | none => none
                      | some x96 => match idxR y3 y4 with
                        | none => none
                        | some x97 => match with1C ((dget y3 (dnat (IntKind.wrap .i64 (a1 - (1 : Int)))) ([] : List (Int))), (dget y3 (dnat y4) ([] : List (Int))), ()) with
                          | none => none
                          | some (y98, _) => match (!(iltR y98 (0 : Int))) with
                            | true => match partEqLC (y3, a1, a2, y4, ()) with
                              | none => none
                              | some (y99, y100, _) => some (.inl (y99, y100, a2, (IntKind.wrap .i64 (a3 - (1 : Int))), a4, a5, ()))
                            | false => match partLC (y3, a1, a2, y4, ()) with
                              | none => none
                              | some (y101, y102, y103, _) => match quoR .i64 (IntKind.wrap .i64 (a2 - a1)) (8 : Int) with
                                | none => none
                                | some x104 => match (iltR (IntKind.wrap .i64 (y102 - a1)) (IntKind.wrap .i64 (a2 - y102))) with
                                  | true => match self (y101, a1, y102, (IntKind.wrap .i64 (a3 - (1 : Int))), ()) with
                                    | none => none
                                    | some (y105, _) => some (.inl (y105, (IntKind.wrap .i64 (y102 + (1 : Int))), a2, (IntKind.wrap .i64 (a3 - (1 : Int))), (ileR x104 (IntKind.wrap .i64 (y102 - a1))), y103, ()))
                                  | false => match self (y101, (IntKind.wrap .i64 (y102 + (1 : Int))), a2, (IntKind.wrap .i64 (a3 - (1 : Int))), ()) with
                                    | none => none
                                    | some (y106, _) => some (.inl (y106, a1, y102, (IntKind.wrap .i64 (a3 - (1 : Int))), (ileR x104 (IntKind.wrap .i64 (a2 - y102))), y103, ()))
                    | false => match partLC (y3, a1, a2, y4, ()) with
                      | none => none
                      | some (y107, y108, y109, _) => match quoR .i64 (IntKind.wrap .i64 (a2 - a1)) (8 : Int) with
                        | none => none
                        | some x110 => match (iltR (IntKind.wrap .i64 (y108 - a1)) (IntKind.wrap .i64 (a2 - y108))) with
                          | true => match self (y107, a1, y108, (IntKind.wrap .i64 (a3 - (1 : Int))), ()) with
                            | none => none
                            | some (y111, _) => some (.inl (y111, (IntKind.wrap .i64 (y108 + (1 : Int))), a2, (IntKind.wrap .i64 (a3 - (1 : Int))), (ileR x110 (IntKind.wrap .i64 (y108 - a1))), y109, ()))
                          | false => match self (y107, (IntKind.wrap .i64 (y108 + (1 : Int))), a2, (IntKind.wrap .i64 (a3 - (1 : Int))), ()) with
                            | none => none
                            | some (y112, _) => some (.inl (y112, a1, y108, (IntKind.wrap .i64 (a3 - (1 : Int))), (ileR x110 (IntKind.wrap .i64 (a2 - y108))), y109, ()))
                | false => match (iltR (0 : Int) a1) with
                  | true => match idxR y3 (IntKind.wrap .i64 (a1 - (1 : Int))) with
                    | none => none
                    | some x113 => match idxR y3 y4 with
                      | none => none
                      | some x114 => match with1C ((dget y3 (dnat (IntKind.wrap .i64 (a1 - (1 : Int)))) ([] : List (Int))), (dget y3 (dnat y4) ([] : List (Int))), ()) with
                        | none => none
                        | some (y115, _) => match (!(iltR y115 (0 : Int))) with
                          | true => match partEqLC (y3, a1, a2, y4, ()) with
                            | none => none
                            | some (y116, y117, _) => some (.inl (y116, y117, a2, (IntKind.wrap .i64 (a3 - (1 : Int))), a4, a5, ()))
                          | false => match partLC (y3, a1, a2, y4, ()) with
                            | none => none
                            | some (y118, y119, y120, _) => match quoR .i64 (IntKind.wrap .i64 (a2 - a1)) (8 : Int) with
                              | none => none
                              | some x121 => match (iltR (IntKind.wrap .i64 (y119 - a1)) (IntKind.wrap .i64 (a2 - y119))) with
                                | true => match self (y118, a1, y119, (IntKind.wrap .i64 (a3 - (1 : Int))), ()) with
                                  | none => none
                                  | some (y122, _) => some (.inl (y122, (IntKind.wrap .i64 (y119 + (1 : Int))), a2, (IntKind.wrap .i64 (a3 - (1 : Int))), (ileR x121 (IntKind.wrap .i64 (y119 - a1))), y120, ()))
                                | false => match self (y118, (IntKind.wrap .i64 (y119 + (1 : Int))), a2, (IntKind.wrap .i64 (a3 - (1 : Int))), ()) with
                                  | none => none
                                  | some (y123, _) => some (.inl (y123, a1, y119, (IntKind.wrap .i64 (a3 - (1 : Int))), (ileR x121 (IntKind.wrap .i64 (a2 - y119))), y120, ()))
                  | false => match partLC (y3, a1, a2, y4, ()) with
                    | none => none
                    | some (y124, y125, y126, _) => match quoR .i64 (IntKind.wrap .i64 (a2 - a1)) (8 : Int) with
                      | none => none
                      | some x127 => match (iltR (IntKind.wrap .i64 (y125 - a1)) (IntKind.wrap .i64 (a2 - y125))) with
                        | true => match self (y124, a1, y125, (IntKind.wrap .i64 (a3 - (1 : Int))), ()) with
                          | none => none
                          | some (y128, _) => some (.inl (y128, (IntKind.wrap .i64 (y125 + (1 : Int))), a2, (IntKind.wrap .i64 (a3 - (1 : Int))), (ileR x127 (IntKind.wrap .i64 (y125 - a1))), y126, ()))
                        | false => match self (y124, (IntKind.wrap .i64 (y125 + (1 : Int))), a2, (IntKind.wrap .i64 (a3 - (1 : Int))), ()) with
                          | none => none
                          | some (y129, _) => some (.inl (y129, a1, y125, (IntKind.wrap .i64 (a3 - (1 : Int))), (ileR x127 (IntKind.wrap .i64 (a2 - y125))), y126, ()))
              | false => match (iltR (0 : Int) a1) with
                | true => match idxR y3 (IntKind.wrap .i64 (a1 - (1 : Int))) with
                  | none => none
                  | some x130 => match idxR y3 y4 with
                    | none => none
                    | some x131 => match with1C ((dget y3 (dnat (IntKind.wrap .i64 (a1 - (1 : Int)))) ([] : List (Int))), (dget y3 (dnat y4) ([] : List (Int))), ()) with
                      | none => none
                      | some (y132, _) => match (!(iltR y132 (0 : Int))) with
                        | true => match partEqLC (y3, a1, a2, y4, ()) with
                          | none => none
                          | some (y133, y134, _) => some (.inl (y133, y134, a2, (IntKind.wrap .i64 (a3 - (1 : Int))), a4, a5, ()))
                        | false => match partLC (y3, a1, a2, y4, ()) with
                          | none => none
                          | some (y135, y136, y137, _) => match quoR .i64 (IntKind.wrap .i64 (a2 - a1)) (8 : Int) with
                            | none => none
                            | some x138 => match (iltR (IntKind.wrap .i64 (y136 - a1)) (IntKind.wrap .i64 (a2 - y136))) with
                              | true => match self (y135, a1, y136, (IntKind.wrap .i64 (a3 - (1 : Int))), ()) with
                                | none => none
                                | some (y139, _) => some (.inl (y139, (IntKind.wrap .i64 (y136 + (1 : Int))), a2, (IntKind.wrap .i64 (a3 - (1 : Int))), (ileR x138 (IntKind.wrap .i64 (y136 - a1))), y137, ()))
                              | false => match self (y135, (IntKind.wrap .i64 (y136 + (1 : Int))), a2, (IntKind.wrap .i64 (a3 - (1 : Int))), ()) with
                                | none => none
                                | some (y140, _) => some (.inl (y140, a1, y136, (IntKind.wrap .i64 (a3 - (1 : Int))), (ileR x138 (IntKind.wrap .i64 (a2 - y136))), y137, ()))
                | false => match partLC (y3, a1, a2, y4, ()) with
                  | none => none
                  | some (y141, y142, y143, _) => match quoR .i64 (IntKind.wrap .i64 (a2 - a1)) (8 : Int) with
                    | none => none
                    | some x144 => match (iltR (IntKind.wrap .i64 (y142 - a1)) (IntKind.wrap .i64 (a2 - y142))) with
                      | true => match self (y141, a1, y142, (IntKind.wrap .i64 (a3 - (1 : Int))), ()) with
                        | none => none
                        | some (y145, _) => some (.inl (y145, (IntKind.wrap .i64 (y142 + (1 : Int))), a2, (IntKind.wrap .i64 (a3 - (1 : Int))), (ileR x144 (IntKind.wrap .i64 (y142 - a1))), y143, ()))
                      | false => match self (y141, (IntKind.wrap .i64 (y142 + (1 : Int))), a2, (IntKind.wrap .i64 (a3 - (1 : Int))), ()) with
                        | none => none
                        | some (y146, _) => some (.inl (y146, a1, y142, (IntKind.wrap .i64 (a3 - (1 : Int))), (ileR x144 (IntKind.wrap .i64 (a2 - y142))), y143, ()))
      | false => match pivotLC (a0, a1, a2, ()) with
        | none => none
        | some (y147, y148, y149, _) => match (ieqR y149 (2 : Int)) with
          | true => match revLC (y147, a1, a2, ()) with
            | none => none
            | some (y150, _) => match a4 with
              | true => match a5 with
                | true => match (ieqR (1 : Int) (1 : Int)) with
                  | true => match partInsLC (y150, a1, a2, ()) with
                    | none => none
                    | some (y151, y152, _) => match y152 with
                      | true => some (.inr (.inl (y151, ())))
                      | false => match (iltR (0 : Int) a1) with
                        | true => match idxR y151 (IntKind.wrap .i64 (a1 - (1 : Int))) with
                          | none => none
                          | some x153 => match idxR y151 (IntKind.wrap .i64 ((IntKind.wrap .i64 (a2 - (1 : Int))) - (IntKind.wrap .i64 (y148 - a1)))) with
                            | none => none
                            | some x154 => match with1C ((dget y151 (dnat (IntKind.wrap .i64 (a1 - (1 : Int)))) ([] : List (Int))), (dget y151 (dnat (IntKind.wrap .i64 ((IntKind.wrap .i64 (a2 - (1 : Int))) - (IntKind.wrap .i64 (y148 - a1))))) ([] : List (Int))), ()) with
                              | none => none
                              | some (y155, _) => match (!(iltR y155 (0 : Int))) with
                                | true => match partEqLC (y151, a1, a2, (IntKind.wrap .i64 ((IntKind.wrap .i64 (a2 - (1 : Int))) - (IntKind.wrap .i64 (y148 - a1)))), ()) with
                                  | none => none
                                  | some (y156, y157, _) => some (.inl (y156, y157, a2, a3, a4, a5, ()))
                                | false => match partLC (y151, a1, a2, (IntKind.wrap .i64 ((IntKind.wrap .i64 (a2 - (1 : Int))) - (IntKind.wrap .i64 (y148 - a1)))), ()) with
                                  | none => none
                                  | some (y158, y159, y160, _) => match quoR .i64 (IntKind.wrap .i64 (a2 - a1)) (8 : Int) with
                                    | none => none
                                    | some x161 => match (iltR (IntKind.wrap .i64 (y159 - a1)) (IntKind.wrap .i64 (a2 - y159))) with
                                      | true => match self (y158, a1, y159, a3, ()) with
                                        | none => none
                                        | some (y162, _) => some (.inl (y162, (IntKind.wrap .i64 (y159 + (1 : Int))), a2, a3, (ileR x161 (IntKind.wrap .i64 (y159 - a1))), y160, ()))
                                      | false => match self (y158, (IntKind.wrap .i64 (y159 + (1 : Int))), a2, a3, ()) with
                                        | none => none
                                        | some (y163, _) => some (.inl (y163, a1, y159, a3, (ileR x161 (IntKind.wrap .i64 (a2 - y159))), y160, ()))
                        | false => match partLC (y151, a1, a2, (IntKind.wrap .i64 ((IntKind.wrap .i64 (a2 - (1 : Int))) - (IntKind.wrap .i64 (y148 - a1)))), ()) with
                          | none => none
                          | some (y164, y165, y166, _) => match quoR .i64 (IntKind.wrap .i64 (a2 - a1)) (8 : Int) with
                            | none => none
                            | some x167 => match (iltR (IntKind.wrap .i64 (y165 - a1)) (IntKind.wrap .i64 (a2 - y165))) with
                              | true => match self (y164, a1, y165, a3, ()) with
                                | none => none
                                | some (y168, _) => some (.inl (y168, (IntKind.wrap .i64 (y165 + (1 : Int))), a2, a3, (ileR x167 (IntKind.wrap .i64 (y165 - a1))), y166, ()))
                              | false => match self (y164, (IntKind.wrap .i64 (y165 + (1 : Int))), a2, a3, ()) with
                                | none => none
                                | some (y169, _) => some (.inl (y169, a1, y165, a3, (ileR x167 (IntKind.wrap .i64 (a2 - y165))), y166, ()))
                  | false => match (iltR (0 : Int) a1) with
                    | true => match idxR y150 (IntKind.wrap .i64 (a1 - (1 : Int))) with
                      | none => none
                      | some x170 => match idxR y150 (IntKind.wrap .i64 ((IntKind.wrap .i64 (a2 - (1 : Int))) - (IntKind.wrap .i64 (y148 - a1)))) with
                        | none => none
                        | some x171 => match with1C ((dget y150 (dnat (IntKind.wrap .i64 (a1 - (1 : Int)))) ([] : List (Int))), (dget y150 (dnat (IntKind.wrap .i64 ((IntKind.wrap .i64 (a2 - (1 : Int))) - (IntKind.wrap .i64 (y148 - a1))))) ([] : List (Int))), ()) with
                          | none => none
                          | some (y172, _) => match (!(iltR y172 (0 : Int))) with
                            | true => match partEqLC (y150, a1, a2, (IntKind.wrap .i64 ((IntKind.wrap .i64 (a2 - (1 : Int))) - (IntKind.wrap .i64 (y148 - a1)))), ()) with
                              | none => none
                              | some (y173, y174, _) => some (.inl (y173, y174, a2, a3, a4, a5, ()))
                            | false => match partLC (y150, a1, a2, (IntKind.wrap .i64 ((IntKind.wrap .i64 (a2 - (1 : Int))) - (IntKind.wrap .i64 (y148 - a1)))), ()) with
                              | none => none
                              | some (y175, y176, y177, _) => match quoR .i64 (IntKind.wrap .i64 (a2 - a1)) (8 : Int) with
                                | none => none
                                | some x178 => match (iltR (IntKind.wrap .i64 (y176 - a1)) (IntKind.wrap .i64 (a2 - y176))) with
                                  | true => match self (y175, a1, y176, a3, ()) with
                                    | none => none
                                    | some (y179, _) => some (.inl (y179, (IntKind.wrap .i64 (y176 + (1 : Int))), a2, a3, (ileR x178 (IntKind.wrap .i64 (y176 - a1))), y177, ()))
                                  | false => match self (y175, (IntKind.wrap .i64 (y176 + (1 : Int))), a2, a3, ()) with
                                    | none => none
                                    | some (y180, _) => some (.inl (y180, a1, y176, a3, (ileR x178 (IntKind.wrap .i64 (a2 - y176))), y177, ()))
                    | false => match partLC (y150, a1, a2, (IntKind.wrap .i64 ((IntKind.wrap .i64 (a2 - (1 : Int))) - (IntKind.wrap .i64 (y148 - a1)))), ()) with
                      | none => none
                      | some (y181, y182, y183, _) => match quoR .i64 (IntKind.wrap .i64 (a2 - a1)) (8 : Int) with
                        | none => none
                        | some x184 => match (iltR (IntKind.wrap .i64 (y182 - a1)) (IntKind.wrap .i64 (a2 - y182))) with
                          | true => match self (y181, a1, y182, a3, ()) with
                            | none => none
                            | some (y185, _) => some (.inl (y185, (IntKind.wrap .i64 (y182 + (1 : Int))), a2, a3, (ileR x184 (IntKind.wrap .i64 (y182 - a1))), y183, ()))
                          | false => match self (y181, (IntKind.wrap .i64 (y182 + (1 : Int))), a2, a3, ()) with
                            | none => none
                            | some (y186, _) => some (.inl (y186, a1, y182, a3, (ileR x184 (IntKind.wrap .i64 (a2 - y182))), y183, ()))
                | false => match (iltR (0 : Int) a1) with
                  | true => match idxR y150 (IntKind.wrap .i64 (a1 - (1 : Int))) with
                    | none => none
                    | some x187 => match idxR y150 (IntKind.wrap .i64 ((IntKind.wrap .i64 (a2 - (1 : Int))) - (IntKind.wrap .i64 (y148 - a1)))) with
                      | none => none
                      | some x188 => match with1C ((dget y150 (dnat (IntKind.wrap .i64 (a1 - (1 : Int)))) ([] : List (Int))), (dget y150 (dnat (IntKind.wrap .i64 ((IntKind.wrap .i64 (a2 - (1 : Int))) - (IntKind.wrap .i64 (y148 - a1))))) ([] : List (Int))), ()) with
                        | none => none
                        | some (y189, _) => match (!(iltR y189 (0 : Int))) with
                          | true => match partEqLC (y150, a1, a2, (IntKind.wrap .i64 ((IntKind.wrap .i64 (a2 - (1 : Int))) - (IntKind.wrap .i64 (y148 - a1)))), ()) with
                            | none => none
                            | some (y190, y191, _) => some (.inl (y190, y191, a2, a3, a4, a5, ()))
                          | false => match partLC (y150, a1, a2, (IntKind.wrap .i64 ((IntKind.wrap .i64 (a2 - (1 : Int))) - (IntKind.wrap .i64 (y148 - a1)))), ()) with
                            | none => none
                            | some (y192, y193, y194, _) => match quoR .i64 (IntKind.wrap .i64 (a2 - a1)) (8 : Int) with
                              | none => none
                              | some x195 => match (iltR (IntKind.wrap .i64 (y193 - a1)) (IntKind.wrap .i64 (a2 - y193))) with
                                | true => match self (y192, a1, y193, a3, ()) with
                                  | none => none
                                  | some (y196, _) => some (.inl (y196, (IntKind.wrap .i64 (y193 + (1 : Int))), a2, a3, (ileR x195 (IntKind.wrap .i64 (y193 - a1))), y194, ()))
                                | false => match self (y192, (IntKind.wrap .i64 (y193 + (1 : Int))), a2, a3, ()) with
                                  | none => none
                                  | some (y197, _) => some (.inl (y197, a1, y193, a3, (ileR x195 (IntKind.wrap .i64 (a2 - y193))), y194, ()))
                  | false => match partLC (y150, a1, a2, (IntKind.wrap .i64 ((IntKind.wrap .i64 (a2 - (1 : Int))) - (IntKind.wrap .i64 (y148 - a1)))), ()) with
                    | none => none
                    | some (y198, y199, y200, _) => match quoR .i64 (IntKind.wrap .i64 (a2 - a1)) (8 : Int) with
                      | none => none
                      | some x201 => match (iltR (IntKind.wrap .i64 (y199 - a1)) (IntKind.wrap .i64 (a2 - y199))) with
                        | true => match self (y198, a1, y199, a3, ()) with
                          | none => none
                          | some (y202, _) => some (.inl (y202, (IntKind.wrap .i64 (y199 + (1 : Int))), a2, a3, (ileR x201 (IntKind.wrap .i64 (y199 - a1))), y200, ()))
                        | false => match self (y198, (IntKind.wrap .i64 (y199 + (1 : Int))), a2, a3, ()) with
                          | none => none
                          | some (y203, _) => some (.inl (y203, a1, y199, a3, (ileR x201 (IntKind.wrap .i64 (a2 - y199))), y200, ()))
              | false => match (iltR (0 : Int) a1) with
                | true => match idxR y150 (IntKind.wrap .i64 (a1 - (1 : Int))) with
                  | none => none
                  | some x204 => match idxR y150 (IntKind.wrap .i64 ((IntKind.wrap .i64 (a2 - (1 : Int))) - (IntKind.wrap .i64 (y148 - a1)))) with
                    | none => none
                    | some x205 => match with1C ((dget y150 (dnat (IntKind.wrap .i64 (a1 - (1 : Int)))) ([] : List (Int))), (dget y150 (dnat (IntKind.wrap .i64 ((IntKind.wrap .i64 (a2 - (1 : Int))) - (IntKind.wrap .i64 (y148 - a1))))) ([] : List (Int))), ()) with
                      | none => none
                      | some (y206, _) => match (!(iltR y206 (0 : Int))) with
                        | true => match partEqLC (y150, a1, a2, (IntKind.wrap .i64 ((IntKind.wrap .i64 (a2 - (1 : Int))) - (IntKind.wrap .i64 (y148 - a1)))), ()) with
                          | none => none
                          | some (y207, y208, _) => some (.inl (y207, y208, a2, a3, a4, a5, ()))
                        | false => match partLC (y150, a1, a2, (IntKind.wrap .i64 ((IntKind.wrap .i64 (a2 - (1 : Int))) - (IntKind.wrap .i64 (y148 - a1)))), ()) with
                          | none => none
                          | some (y209, y210, y211, _) => match quoR .i64 (IntKind.wrap .i64 (a2 - a1)) (8 : Int) with
                            | none => none
                            | some x212 => match (iltR (IntKind.wrap .i64 (y210 - a1)) (IntKind.wrap .i64 (a2 - y210))) with
                              | true => match self (y209, a1, y210, a3, ()) with
                                | none => none
                                | some (y213, _) => some (.inl (y213, (IntKind.wrap .i64 (y210 + (1 : Int))), a2, a3, (ileR x212 (IntKind.wrap .i64 (y210 - a1))), y211, ()))
                              | false => match self (y209, (IntKind.wrap .i64 (y210 + (1 : Int))), a2, a3, ()) with
                                | none => none
                                | some (y214, _) => some (.inl (y214, a1, y210, a3, (ileR x212 (IntKind.wrap .i64 (a2 - y210))), y211, ()))
                | false => match partLC (y150, a1, a2, (IntKind.wrap .i64 ((IntKind.wrap .i64 (a2 - (1 : Int))) - (IntKind.wrap .i64 (y148 - a1)))), ()) with
                  | none => none
                  | some (y215, y216, y217, _) => match quoR .i64 (IntKind.wrap .i64 (a2 - a1)) (8 : Int) with
                    | none => none
                    | some x218 => match (iltR (IntKind.wrap .i64 (y216 - a1)) (IntKind.wrap .i64 (a2 - y216))) with
                      | true => match self (y215, a1, y216, a3, ()) with
                        | none => none
                        | some (y219, _) => some (.inl (y219, (IntKind.wrap .i64 (y216 + (1 : Int))), a2, a3, (ileR x218 (IntKind.wrap .i64 (y216 - a1))), y217, ()))
                      | false => match self (y215, (IntKind.wrap .i64 (y216 + (1 : Int))), a2, a3, ()) with
                        | none => none
                        | some (y220, _) => some (.inl (y220, a1, y216, a3, (ileR x218 (IntKind.wrap .i64 (a2 - y216))), y217, ()))
          | false => match a4 with
            | true => match a5 with
              | true => match (ieqR y149 (1 : Int)) with
                | true => match partInsLC (y147, a1, a2, ()) with
                  | none => none
                  | some (y221, y222, _) => match y222 with
                    | true => some (.inr (.inl (y221, ())))
                    | false => match (iltR (0 : Int) a1) with
                      | true => match idxR y221 (IntKind.wrap .i64 (a1 - (1 : Int))) with
                        | none => none
                        | some x223 => match idxR y221 y148 with
                          | none => none
                          | some x224 => match with1C ((dget y221 (dnat (IntKind.wrap .i64 (a1 - (1 : Int)))) ([] : List (Int))), (dget y221 (dnat y148) ([] : List (Int))), ()) with
                            | none => none
                            | some (y225, _) => match (!(iltR y225 (0 : Int))) with
                              | true => match partEqLC (y221, a1, a2, y148, ()) with
                                | none => none
                                | some (y226, y227, _) => some (.inl (y226, y227, a2, a3, a4, a5, ()))
                              | false => match partLC (y221, a1, a2, y148, ()) with
                                | none => none
                                | some (y228, y229, y230, _) => match quoR .i64 (IntKind.wrap .i64 (a2 - a1)) (8 : Int) with
                                  | none => none
                                  | some x231 => match (iltR (IntKind.wrap .i64 (y229 - a1)) (IntKind.wrap .i64 (a2 - y229))) with
                                    | true => match self (y228, a1, y229, a3, ()) with
                                      | none => none
                                      | some (y232, _) => some (.inl (y232, (IntKind.wrap .i64 (y229 + (1 : Int))), a2, a3, (ileR x231 (IntKind.wrap .i64 (y229 - a1))), y230, ()))
                                    | false => match self (y228, (IntKind.wrap .i64 (y229 + (1 : Int))), a2, a3, ()) with
                                      | none => none
                                      | some (y233, _) => some (.inl (y233, a1, y229, a3, (ileR x231 (IntKind.wrap .i64 (a2 - y229))), y230, ()))
                      | false => match partLC (y221, a1, a2, y148, ()) with
                        | none => none
                        | some (y234, y235, y236, _) => match quoR .i64 (IntKind.wrap .i64 (a2 - a1)) (8 : Int) with
                          | none => none
                          | some x237 => match (iltR (IntKind.wrap .i64 (y235 - a1)) (IntKind.wrap .i64 (a2 - y235))) with
                            | true => match self (y234, a1, y235, a3, ()) with
                              | none => none
                              | some (y238, _) => some (.inl (y238, (IntKind.wrap .i64 (y235 + (1 : Int))), a2, a3, (ileR x237 (IntKind.wrap .i64 (y235 - a1))), y236, ()))
                            | false => match self (y234, (IntKind.wrap .i64 (y235 + (1 : Int))), a2, a3, ()) with
                              | none => none
                              | some (y239, _) => some (.inl (y239, a1, y235, a3, (ileR x237 (IntKind.wrap .i64 (a2 - y235))), y236, ()))
                | false => match (iltR (0 : Int) a1) with
                  | true => match idxR y147 (IntKind.wrap .i64 (a1 - (1 : Int))) with
                    | none => none
                    | some x240 => match idxR y147 y148 with
                      | none => none
                      | some x241 => match with1C ((dget y147 (dnat (IntKind.wrap .i64 (a1 - (1 : Int)))) ([] : List (Int))), (dget y147 (dnat y148) ([] : List (Int))), ()) with
                        | none => none
                        | some (y242, _) => match (!(iltR y242 (0 : Int))) with
                          | true => match partEqLC (y147, a1, a2, y148, ()) with
                            | none => none
                            | some (y243, y244, _) => some (.inl (y243, y244, a2, a3, a4, a5, ()))
                          | false => match partLC (y147, a1, a2, y148, ()) with
                            | none => none
                            | some (y245, y246, y247, _) => match quoR .i64 (IntKind.wrap .i64 (a2 - a1)) (8 : Int) with
                              | none => none
                              | some x248 => match (iltR (IntKind.wrap .i64 (y246 - a1)) (IntKind.wrap .i64 (a2 - y246))) with
                                | true => match self (y245, a1, y246, a3, ()) with
                                  | none => none
                                  | some (y249, _) => some (.inl (y249, (IntKind.wrap .i64 (y246 + (1 : Int))), a2, a3, (ileR x248 (IntKind.wrap .i64 (y246 - a1))), y247, ()))
                                | false => match self (y245, (IntKind.wrap .i64 (y246 + (1 : Int))), a2, a3, ()) with
                                  | none => none
                                  | some (y250, _) => some (.inl (y250, a1, y246, a3, (ileR x248 (IntKind.wrap .i64 (a2 - y246))), y247, ()))
                  | false => match partLC (y147, a1, a2, y148, ()) with
                    | none => none
                    | some (y251, y252, y253, _) => match quoR .i64 (IntKind.wrap .i64 (a2 - a1)) (8 : Int) with
                      | none => none
                      | some x254 => match (iltR (IntKind.wrap .i64 (y252 - a1)) (IntKind.wrap .i64 (a2 - y252))) with
                        | true => match self (y251, a1, y252, a3, ()) with
                          | none => none
                          | some (y255, _) => some (.inl (y255, (IntKind.wrap .i64 (y252 + (1 : Int))), a2, a3, (ileR x254 (IntKind.wrap .i64 (y252 - a1))), y253, ()))
                        | false => match self (y251, (IntKind.wrap .i64 (y252 + (1 : Int))), a2, a3, ()) with
                          | none => none
                          | some (y256, _) => some (.inl (y256, a1, y252, a3, (ileR x254 (IntKind.wrap .i64 (a2 - y252))), y253, ()))
              | false => match (iltR (0 : Int) a1) with
                | true => match idxR y147 (IntKind.wrap .i64 (a1 - (1 : Int))) with
                  | none => none
                  | some x257 => match idxR y147 y148 with
                    | none => none
                    | some x258 => match with1C ((dget y147 (dnat (IntKind.wrap .i64 (a1 - (1 : Int)))) ([] : List (Int))), (dget y147 (dnat y148) ([] : List (Int))), ()) with
                      | none => none
                      | some (y259, _) => match (!(iltR y259 (0 : Int))) with
                        | true => match partEqLC (y147, a1, a2, y148, ()) with
                          | none => none
                          | some (y260, y261, _) => some (.inl (y260, y261, a2, a3, a4, a5, ()))
                        | false => match partLC (y147, a1, a2, y148, ()) with
                          | none => none
                          | some (y262, y263, y264, _) => match quoR .i64 (IntKind.wrap .i64 (a2 - a1)) (8 : Int) with
                            | none => none
                            | some x265 => match (iltR (IntKind.wrap .i64 (y263 - a1)) (IntKind.wrap .i64 (a2 - y263))) with
                              | true => match self (y262, a1, y263, a3, ()) with
                                | none => none
                                | some (y266, _) => some (.inl (y266, (IntKind.wrap .i64 (y263 + (1 : Int))), a2, a3, (ileR x265 (IntKind.wrap .i64 (y263 - a1))), y264, ()))
                              | false => match self (y262, (IntKind.wrap .i64 (y263 + (1 : Int))), a2, a3, ()) with
                                | none => none
                                | some (y267, _) => some (.inl (y267, a1, y263, a3, (ileR x265 (IntKind.wrap .i64 (a2 - y263))), y264, ()))
                | false => match partLC (y147, a1, a2, y148, ()) with
                  | none => none
                  | some (y268, y269, y270, _) => match quoR .i64 (IntKind.wrap .i64 (a2 - a1)) (8 : Int) with
                    | none => none
                    | some x271 => match (iltR (IntKind.wrap .i64 (y269 - a1)) (IntKind.wrap .i64 (a2 - y269))) with
                      | true => match self (y268, a1, y269, a3, ()) with
                        | none => none
                        | some (y272, _) => some (.inl (y272, (IntKind.wrap .i64 (y269 + (1 : Int))), a2, a3, (ileR x271 (IntKind.wrap .i64 (y269 - a1))), y270, ()))
                      | false => match self (y268, (IntKind.wrap .i64 (y269 + (1 : Int))), a2, a3, ()) with
                        | none => none
                        | some (y273, _) => some (.inl (y273, a1, y269, a3, (ileR x271 (IntKind.wrap .i64 (a2 - y269))), y270, ()))
            | false => match (iltR (0 : Int) a1) with
              | true => match idxR y147 (IntKind.wrap .i64 (a1 - (1 : Int))) with
                | none => none
                | some x274 => match idxR y147 y148 with
                  | none => none
                  | some x275 => match with1C ((dget y147 (dnat (IntKind.wrap .i64 (a1 - (1 : Int)))) ([] : List (Int))), (dget y147 (dnat y148) ([] : List (Int))), ()) with
                    | none => none
                    | some (y276, _) => match (!(iltR y276 (0 : Int))) with
                      | true => match partEqLC (y147, a1, a2, y148, ()) with
                        | none => none
                        | some (y277, y278, _) => some (.inl (y277, y278, a2, a3, a4, a5, ()))
                      | false => match partLC (y147, a1, a2, y148, ()) with
                        | none => none
                        | some (y279, y280, y281, _) => match quoR .i64 (IntKind.wrap .i64 (a2 - a1)) (8 : Int) with
                          | none => none
                          | some x282 => match (iltR (IntKind.wrap .i64 (y280 - a1)) (IntKind.wrap .i64 (a2 - y280))) with
                            | true => match self (y279, a1, y280, a3, ()) with
                              | none => none
                              | some (y283, _) => some (.inl (y283, (IntKind.wrap .i64 (y280 + (1 : Int))), a2, a3, (ileR x282 (IntKind.wrap .i64 (y280 - a1))), y281, ()))
                            | false => match self (y279, (IntKind.wrap .i64 (y280 + (1 : Int))), a2, a3, ()) with
                              | none => none
                              | some (y284, _) => some (.inl (y284, a1, y280, a3, (ileR x282 (IntKind.wrap .i64 (a2 - y280))), y281, ()))
              | false => match partLC (y147, a1, a2, y148, ()) with
                | none => none
                | some (y285, y286, y287, _) => match quoR .i64 (IntKind.wrap .i64 (a2 - a1)) (8 : Int) with
                  | none => none
                  | some x288 => match (iltR (IntKind.wrap .i64 (y286 - a1)) (IntKind.wrap .i64 (a2 - y286))) with
                    | true => match self (y285, a1, y286, a3, ()) with
                      | none => none
                      | some (y289, _) => some (.inl (y289, (IntKind.wrap .i64 (y286 + (1 : Int))), a2, a3, (ileR x288 (IntKind.wrap .i64 (y286 - a1))), y287, ()))
                    | false => match self (y285, (IntKind.wrap .i64 (y286 + (1 : Int))), a2, a3, ()) with
                      | none => none
                      | some (y290, _) => some (.inl (y290, a1, y286, a3, (ileR x288 (IntKind.wrap .i64 (a2 - y286))), y287, ()))

theorem pdqL_s0_ceq (self) : pdqL_s0 self = pdqL_s0C self := by
  funext v
  simp only [pdqL_s0, pdqL_s0C, idx_eq, quo_eq, ilt_eqR, ile_eqR, ieq_eqR, with1_ceq, insL_ceq, heapL_ceq, breakL_ceq, pivotL_ceq, revL_ceq, partInsL_ceq, partEqL_ceq, partL_ceq] <;> rfl

def pdqL_dC (self : (List (List Int) × Int × Int × Int × Unit) → Option ((List (List Int) × Unit))) : (List (List Int) × Int × Int × Int × Unit) → Option ((List (List Int) × Unit)) := fun (a0, a1, a2, a3, _) =>
  match iterO (pdqL_s0C self) many (a0, a1, a2, a3, true, true, ()) with
  | none => none
  | some r => match r with
    | .inl (o0, _) => some (o0, ())
    | .inr _ => none

theorem pdqL_d_ceq (self) : pdqL_d self = pdqL_dC self := by
  funext v
  simp only [pdqL_d, pdqL_dC, iterL_eq, pdqL_s0_ceq] <;> rfl

def pdqL_fC : Nat → (List (List Int) × Int × Int × Int × Unit) → Option ((List (List Int) × Unit))
  | 0, _ => none
  | n + 1, v => pdqL_dC (pdqL_fC n) v

theorem pdqL_f_ceq : ∀ n, pdqL_f n = pdqL_fC n := by
  intro n
  induction n with
  | zero => rfl
  | succ n ih => funext v; show pdqL_d (pdqL_f n) v = pdqL_dC (pdqL_fC n) v; rw [pdqL_d_ceq, ih]

def pdqLC (v : denL (leaves pdqL_i)) : Option (denL (leaves pdqL_o)) := pdqL_fC 100 v

theorem pdqL_ceq : pdqL = pdqLC := by
  funext v
  rw [pdqL_eq, pdqL_f_ceq]; rfl


-- slices.SortFunc[[][]int,[]int]
abbrev sortL_i : Items := [(.tmp 0, .own 62 (.slice (.int .i64))), (.tmp 1, .clo 99 [])]
abbrev sortL_o : Items := [(.obj 0, .own 62 (.slice (.int .i64)))]
abbrev sortL_r : List RS := []
def sortL_d : (List (List Int) × Unit) → Option ((List (List Int) × Unit)) := fun (a0, _) =>
  match bitsLen ((IntKind.wrap .u64 (dlen a0)), ()) with
  | none => none
  | some (y0, _) => match pdqL (a0, (0 : Int), (dlen a0), y0, ()) with
    | none => none
    | some (y1, _) => some (y1, ())
def sortL (v : (List (List Int) × Unit)) : Option ((List (List Int) × Unit)) := lock (sortL_d v)
theorem sortL_eq (v : (List (List Int) × Unit)) : sortL v = sortL_d v := lock_eq _
def sortL_dC : (List (List Int) × Unit) → Option ((List (List Int) × Unit)) := fun (a0, _) =>
  match bitsLenC ((IntKind.wrap .u64 (dlen a0)), ()) with
  | none => none
  | some (y0, _) => match pdqLC (a0, (0 : Int), (dlen a0), y0, ()) with
    | none => none
    | some (y1, _) => some (y1, ())

theorem sortL_d_ceq : sortL_d = sortL_dC := by
  funext v
  simp only [sortL_d, sortL_dC, bitsLen_ceq, pdqL_ceq] <;> rfl

def sortLC (v : denL (leaves sortL_i)) : Option (denL (leaves sortL_o)) := sortL_dC v

theorem sortL_ceq : sortL = sortLC := by
  funext v
  rw [sortL_eq, sortL_d_ceq]; rfl


-- archipelago/tour.with
abbrev twith_i : Items := [(.tmp 0, .dat (.prod (.int .i64) (.prod (.slice (.slice (.int .i64))) .unit))), (.tmp 1, .dat (.slice (.int .i64))), (.tmp 2, .dat (.slice (.slice (.int .i64))))]
abbrev twith_o : Items := [(.tmp 0, .dat (.int .i64)), (.tmp 1, .own 62 (.slice (.int .i64)))]
abbrev twith_r : List RS := [.agg 2]
abbrev twith_i1 : Items := [(.tmp 3, .box 2), (.cell 0 0, .dat (.int .i64)), (.cell 0 1, .dat (.slice (.slice (.int .i64)))), (.tmp 6, .box 2), (.cell 1 0, .dat (.int .i64)), (.cell 1 1, .nil (.slice (.int .i64))), (.tmp 7, .own 62 (.slice (.int .i64))), (.tmp 29, .dat (.slice (.slice (.int .i64)))), (.tmp 30, .dat (.int .i64)), (.tmp 31, .dat (.int .i64))]
abbrev twith_o1 : Outs := [(.exit 2, [(.tmp 3, .box 2), (.cell 0 0, .dat (.int .i64)), (.cell 0 1, .dat (.slice (.slice (.int .i64)))), (.tmp 6, .box 2), (.cell 1 0, .dat (.int .i64)), (.cell 1 1, .nil (.slice (.int .i64))), (.tmp 7, .own 62 (.slice (.int .i64)))])]
def twith_s1 : (Int × List (List Int) × Int × List (List Int) × List (List Int) × Int × Int × Unit) → Option ((Int × List (List Int) × Int × List (List Int) × List (List Int) × Int × Int × Unit) ⊕ (Int × List (List Int) × Int × List (List Int) × Unit) ⊕ Unit) := fun (a0, a1, a2, a3, a4, a5, a6, _) =>
  match (ilt a6 a5) with
  | true => match idx a4 a6 with
    | none => none
    | some x0 => match rplain (x0, ()) with
      | none => none
      | some (y1, _) => match (fits ((dlen a3) + (dlen ([y1] : List (List Int))))) with
        | true => some (.inl (a0, a1, a2, (dapp a3 ([y1] : List (List Int))), a4, a5, (IntKind.wrap .i64 (a6 + (1 : Int))), ()))
        | false => none
  | false => some (.inr (.inl (a0, a1, a2, a3, ())))
abbrev twith_i0 : Items := [(.tmp 1, .dat (.slice (.int .i64))), (.tmp 2, .dat (.slice (.slice (.int .i64)))), (.tmp 3, .box 2), (.cell 0 0, .dat (.int .i64)), (.cell 0 1, .dat (.slice (.slice (.int .i64)))), (.tmp 6, .box 2), (.cell 1 0, .dat (.int .i64)), (.cell 1 1, .nil (.slice (.int .i64))), (.tmp 7, .own 62 (.slice (.int .i64))), (.tmp 13, .dat (.slice (.slice (.int .i64)))), (.tmp 14, .dat (.int .i64)), (.tmp 15, .dat (.int .i64))]
abbrev twith_o0 : Outs := [(.exit 0, [(.tmp 2, .dat (.slice (.slice (.int .i64)))), (.tmp 3, .box 2), (.cell 0 0, .dat (.int .i64)), (.cell 0 1, .dat (.slice (.slice (.int .i64)))), (.tmp 6, .box 2), (.cell 1 0, .dat (.int .i64)), (.cell 1 1, .nil (.slice (.int .i64))), (.tmp 7, .own 62 (.slice (.int .i64)))])]
def twith_s0 : (List Int × List (List Int) × Int × List (List Int) × Int × List (List Int) × List (List Int) × Int × Int × Unit) → Option ((List Int × List (List Int) × Int × List (List Int) × Int × List (List Int) × List (List Int) × Int × Int × Unit) ⊕ (List (List Int) × Int × List (List Int) × Int × List (List Int) × Unit) ⊕ Unit) := fun (a0, a1, a2, a3, a4, a5, a6, a7, a8, _) =>
  match (ilt a8 a7) with
  | true => match idx a6 a8 with
    | none => none
    | some x0 => match containsI (a0, a8, ()) with
      | none => none
      | some (y1, _) => match (!y1) with
        | true => match (fits ((dlen a5) + (dlen ([x0] : List (List Int))))) with
          | true => some (.inl (a0, a1, a2, a3, a4, (dapp a5 ([x0] : List (List Int))), a6, a7, (IntKind.wrap .i64 (a8 + (1 : Int))), ()))
          | false => none
        | false => some (.inl (a0, a1, a2, a3, a4, a5, a6, a7, (IntKind.wrap .i64 (a8 + (1 : Int))), ()))
  | false => some (.inr (.inl (a1, a2, a3, a4, a5, ())))
def twith_d : ((Int × (List (List Int)) × Unit) × List Int × List (List Int) × Unit) → Option ((Int × List (List Int) × Unit)) := fun (a0, a1, a2, _) =>
  match iterL twith_s0 many (a1, a2, a0.1, a0.2.1, (0 : Int), ([] : List (List Int)), a0.2.1, (dlen a0.2.1), (0 : Int), ()) with
  | none => none
  | some r => match r with
    | .inl (o0, o1, o2, o3, o4, _) => match iterL twith_s1 many (o1, o2, o3, o4, o0, (dlen o0), (0 : Int), ()) with
      | none => none
      | some r => match r with
        | .inl (o5, o6, o7, o8, _) => match sortL (o8, ()) with
          | none => none
          | some (y9, _) => some (o5, y9, ())
        | .inr _ => none
    | .inr _ => none
def twith (v : ((Int × (List (List Int)) × Unit) × List Int × List (List Int) × Unit)) : Option ((Int × List (List Int) × Unit)) := lock (twith_d v)
theorem twith_eq (v : ((Int × (List (List Int)) × Unit) × List Int × List (List Int) × Unit)) : twith v = twith_d v := lock_eq _
def twith_s1C : (Int × List (List Int) × Int × List (List Int) × List (List Int) × Int × Int × Unit) → Option ((Int × List (List Int) × Int × List (List Int) × List (List Int) × Int × Int × Unit) ⊕ (Int × List (List Int) × Int × List (List Int) × Unit) ⊕ Unit) := fun (a0, a1, a2, a3, a4, a5, a6, _) =>
  match (iltR a6 a5) with
  | true => match idxR a4 a6 with
    | none => none
    | some x0 => match rplainC (x0, ()) with
      | none => none
      | some (y1, _) => match (fitsR ((dlen a3) + (dlen ([y1] : List (List Int))))) with
        | true => some (.inl (a0, a1, a2, (dapp a3 ([y1] : List (List Int))), a4, a5, (IntKind.wrap .i64 (a6 + (1 : Int))), ()))
        | false => none
  | false => some (.inr (.inl (a0, a1, a2, a3, ())))

theorem twith_s1_ceq : twith_s1 = twith_s1C := by
  funext v
  simp only [twith_s1, twith_s1C, idx_eq, fits_eq, ilt_eqR, rplain_ceq] <;> rfl

def twith_s0C : (List Int × List (List Int) × Int × List (List Int) × Int × List (List Int) × List (List Int) × Int × Int × Unit) → Option ((List Int × List (List Int) × Int × List (List Int) × Int × List (List Int) × List (List Int) × Int × Int × Unit) ⊕ (List (List Int) × Int × List (List Int) × Int × List (List Int) × Unit) ⊕ Unit) := fun (a0, a1, a2, a3, a4, a5, a6, a7, a8, _) =>
  match (iltR a8 a7) with
  | true => match idxR a6 a8 with
    | none => none
    | some x0 => match containsIC (a0, a8, ()) with
      | none => none
      | some (y1, _) => match (!y1) with
        | true => match (fitsR ((dlen a5) + (dlen ([x0] : List (List Int))))) with
          | true => some (.inl (a0, a1, a2, a3, a4, (dapp a5 ([x0] : List (List Int))), a6, a7, (IntKind.wrap .i64 (a8 + (1 : Int))), ()))
          | false => none
        | false => some (.inl (a0, a1, a2, a3, a4, a5, a6, a7, (IntKind.wrap .i64 (a8 + (1 : Int))), ()))
  | false => some (.inr (.inl (a1, a2, a3, a4, a5, ())))

theorem twith_s0_ceq : twith_s0 = twith_s0C := by
  funext v
  simp only [twith_s0, twith_s0C, idx_eq, fits_eq, ilt_eqR, containsI_ceq] <;> rfl

def twith_dC : ((Int × (List (List Int)) × Unit) × List Int × List (List Int) × Unit) → Option ((Int × List (List Int) × Unit)) := fun (a0, a1, a2, _) =>
  match iterO twith_s0C many (a1, a2, a0.1, a0.2.1, (0 : Int), ([] : List (List Int)), a0.2.1, (dlen a0.2.1), (0 : Int), ()) with
  | none => none
  | some r => match r with
    | .inl (o0, o1, o2, o3, o4, _) => match iterO twith_s1C many (o1, o2, o3, o4, o0, (dlen o0), (0 : Int), ()) with
      | none => none
      | some r => match r with
        | .inl (o5, o6, o7, o8, _) => match sortLC (o8, ()) with
          | none => none
          | some (y9, _) => some (o5, y9, ())
        | .inr _ => none
    | .inr _ => none

theorem twith_d_ceq : twith_d = twith_dC := by
  funext v
  simp only [twith_d, twith_dC, iterL_eq, sortL_ceq, twith_s1_ceq, twith_s0_ceq] <;> rfl

def twithC (v : denL (leaves twith_i)) : Option (denL (leaves twith_o)) := twith_dC v

theorem twith_ceq : twith = twithC := by
  funext v
  rw [twith_eq, twith_d_ceq]; rfl


end
end Go.Pev
end
section
/- The models of functions: what they compute, as plain functions of leaves; each twice: locked, and to compute with (C). Printed by a program. -/
namespace Go.Pev
set_option maxRecDepth 100000
noncomputable section
attribute [local irreducible] fitsR fitsIR idxR sublR iltR ileR ieqR quoR remR shlR shrR cloneR iterO many IntKind.wrap dlen dset dget dapp dtake dcut drep dnat dclear imin imax lookupM storeM
-- archipelago/tour.Link
abbrev tlink_i : Items := [(.tmp 0, .dat (.prod (.int .i64) (.prod (.slice (.slice (.int .i64))) .unit))), (.tmp 1, .dat (.int .i64)), (.tmp 2, .dat (.int .i64))]
abbrev tlink_o : Items := [(.tmp 0, .dat (.int .i64)), (.tmp 1, .dat (.slice (.slice (.int .i64)))), (.tmp 2, .dat (.int .i64))]
abbrev tlink_r : List RS := [.agg 2, .one]
def tlink_d : ((Int × (List (List Int)) × Unit) × Int × Int × Unit) → Option ((Int × List (List Int) × Int × Unit)) := fun (a0, a1, a2, _) =>
  match asked ((a0.1, (a0.2.1, ())), a1, a2, ()) with
  | none => none
  | some (y0, _) => match (!(ieq y0 (0 : Int))) with
    | true => some (a0.1, a0.2.1, y0, ())
    | false => match tplace ((a0.1, (a0.2.1, ())), a1, ()) with
      | none => none
      | some (y1, _) => match tplace ((a0.1, (a0.2.1, ())), a2, ()) with
        | none => none
        | some (y2, _) => match (ieq y1 y2) with
          | true => some (a0.1, a0.2.1, (5 : Int), ())
          | false => match idx a0.2.1 y1 with
            | none => none
            | some x3 => match rfrom (x3, a1, ()) with
              | none => none
              | some (y4, y5, _) => match idx a0.2.1 y2 with
                | none => none
                | some x6 => match rfrom (x6, a2, ()) with
                  | none => none
                  | some (y7, y8, _) => match subl y4 (0 : Int) (1 : Int) with
                    | none => none
                    | some x9 => match tarc (a0.1, a1, a2, ()) with
                      | none => none
                      | some (y10, _) => match tarc (a0.1, a2, a1, ()) with
                        | none => none
                        | some (y11, _) => match subl y4 (1 : Int) (dlen y4) with
                          | none => none
                          | some x12 => match concatI (([(dcut 0 (dnat (dlen x9)) y4), ([y10] : List (Int)), y7, ([y11] : List (Int)), (dcut 1 (dnat (dlen x12)) y4)] : List (List Int)), ()) with
                            | none => none
                            | some (y13, _) => match twith ((a0.1, (a0.2.1, ())), ([y1, y2] : List (Int)), ([y13] : List (List Int)), ()) with
                              | none => none
                              | some (y14, y15, _) => some (y14, y15, (0 : Int), ())
def tlink (v : ((Int × (List (List Int)) × Unit) × Int × Int × Unit)) : Option ((Int × List (List Int) × Int × Unit)) := lock (tlink_d v)
theorem tlink_eq (v : ((Int × (List (List Int)) × Unit) × Int × Int × Unit)) : tlink v = tlink_d v := lock_eq _
def tlink_dC : ((Int × (List (List Int)) × Unit) × Int × Int × Unit) → Option ((Int × List (List Int) × Int × Unit)) := fun (a0, a1, a2, _) =>
  match askedC ((a0.1, (a0.2.1, ())), a1, a2, ()) with
  | none => none
  | some (y0, _) => match (!(ieqR y0 (0 : Int))) with
    | true => some (a0.1, a0.2.1, y0, ())
    | false => match tplaceC ((a0.1, (a0.2.1, ())), a1, ()) with
      | none => none
      | some (y1, _) => match tplaceC ((a0.1, (a0.2.1, ())), a2, ()) with
        | none => none
        | some (y2, _) => match (ieqR y1 y2) with
          | true => some (a0.1, a0.2.1, (5 : Int), ())
          | false => match idxR a0.2.1 y1 with
            | none => none
            | some x3 => match rfromC (x3, a1, ()) with
              | none => none
              | some (y4, y5, _) => match idxR a0.2.1 y2 with
                | none => none
                | some x6 => match rfromC (x6, a2, ()) with
                  | none => none
                  | some (y7, y8, _) => match sublR y4 (0 : Int) (1 : Int) with
                    | none => none
                    | some x9 => match tarcC (a0.1, a1, a2, ()) with
                      | none => none
                      | some (y10, _) => match tarcC (a0.1, a2, a1, ()) with
                        | none => none
                        | some (y11, _) => match sublR y4 (1 : Int) (dlen y4) with
                          | none => none
                          | some x12 => match concatIC (([(dcut 0 (dnat (dlen x9)) y4), ([y10] : List (Int)), y7, ([y11] : List (Int)), (dcut 1 (dnat (dlen x12)) y4)] : List (List Int)), ()) with
                            | none => none
                            | some (y13, _) => match twithC ((a0.1, (a0.2.1, ())), ([y1, y2] : List (Int)), ([y13] : List (List Int)), ()) with
                              | none => none
                              | some (y14, y15, _) => some (y14, y15, (0 : Int), ())

theorem tlink_d_ceq : tlink_d = tlink_dC := by
  funext v
  simp only [tlink_d, tlink_dC, idx_eq, subl_eq, ieq_eqR, tarc_ceq, concatI_ceq, rfrom_ceq, tplace_ceq, asked_ceq, twith_ceq] <;> rfl

def tlinkC (v : denL (leaves tlink_i)) : Option (denL (leaves tlink_o)) := tlink_dC v

theorem tlink_ceq : tlink = tlinkC := by
  funext v
  rw [tlink_eq, tlink_d_ceq]; rfl


-- archipelago/tour.Cut
abbrev tcut_i : Items := [(.tmp 0, .dat (.prod (.int .i64) (.prod (.slice (.slice (.int .i64))) .unit))), (.tmp 1, .dat (.int .i64)), (.tmp 2, .dat (.int .i64))]
abbrev tcut_o : Items := [(.tmp 0, .dat (.int .i64)), (.tmp 1, .dat (.slice (.slice (.int .i64)))), (.tmp 2, .dat (.int .i64))]
abbrev tcut_r : List RS := [.agg 2, .one]
def tcut_d : ((Int × (List (List Int)) × Unit) × Int × Int × Unit) → Option ((Int × List (List Int) × Int × Unit)) := fun (a0, a1, a2, _) =>
  match asked ((a0.1, (a0.2.1, ())), a1, a2, ()) with
  | none => none
  | some (y0, _) => match (!(ieq y0 (0 : Int))) with
    | true => some (a0.1, a0.2.1, y0, ())
    | false => match tplace ((a0.1, (a0.2.1, ())), a1, ()) with
      | none => none
      | some (y1, _) => match idx a0.2.1 y1 with
        | none => none
        | some x2 => match tarc (a0.1, a1, a2, ()) with
          | none => none
          | some (y3, _) => match rfrom (x2, y3, ()) with
            | none => none
            | some (y4, y5, _) => match (!y5) with
              | true => some (a0.1, a0.2.1, (6 : Int), ())
              | false => match tarc (a0.1, a2, a1, ()) with
                | none => none
                | some (y6, _) => match indexI (y4, y6, ()) with
                  | none => none
                  | some (y7, _) => match subl y4 (1 : Int) y7 with
                    | none => none
                    | some x8 => match subl y4 (IntKind.wrap .i64 (y7 + (1 : Int))) (dlen y4) with
                      | none => none
                      | some x9 => match twith ((a0.1, (a0.2.1, ())), ([y1] : List (Int)), ([(dcut 1 (dnat (dlen x8)) y4), (dcut (dnat (IntKind.wrap .i64 (y7 + (1 : Int)))) (dnat (dlen x9)) y4)] : List (List Int)), ()) with
                        | none => none
                        | some (y10, y11, _) => some (y10, y11, (0 : Int), ())
def tcut (v : ((Int × (List (List Int)) × Unit) × Int × Int × Unit)) : Option ((Int × List (List Int) × Int × Unit)) := lock (tcut_d v)
theorem tcut_eq (v : ((Int × (List (List Int)) × Unit) × Int × Int × Unit)) : tcut v = tcut_d v := lock_eq _
def tcut_dC : ((Int × (List (List Int)) × Unit) × Int × Int × Unit) → Option ((Int × List (List Int) × Int × Unit)) := fun (a0, a1, a2, _) =>
  match askedC ((a0.1, (a0.2.1, ())), a1, a2, ()) with
  | none => none
  | some (y0, _) => match (!(ieqR y0 (0 : Int))) with
    | true => some (a0.1, a0.2.1, y0, ())
    | false => match tplaceC ((a0.1, (a0.2.1, ())), a1, ()) with
      | none => none
      | some (y1, _) => match idxR a0.2.1 y1 with
        | none => none
        | some x2 => match tarcC (a0.1, a1, a2, ()) with
          | none => none
          | some (y3, _) => match rfromC (x2, y3, ()) with
            | none => none
            | some (y4, y5, _) => match (!y5) with
              | true => some (a0.1, a0.2.1, (6 : Int), ())
              | false => match tarcC (a0.1, a2, a1, ()) with
                | none => none
                | some (y6, _) => match indexIC (y4, y6, ()) with
                  | none => none
                  | some (y7, _) => match sublR y4 (1 : Int) y7 with
                    | none => none
                    | some x8 => match sublR y4 (IntKind.wrap .i64 (y7 + (1 : Int))) (dlen y4) with
                      | none => none
                      | some x9 => match twithC ((a0.1, (a0.2.1, ())), ([y1] : List (Int)), ([(dcut 1 (dnat (dlen x8)) y4), (dcut (dnat (IntKind.wrap .i64 (y7 + (1 : Int)))) (dnat (dlen x9)) y4)] : List (List Int)), ()) with
                        | none => none
                        | some (y10, y11, _) => some (y10, y11, (0 : Int), ())

theorem tcut_d_ceq : tcut_d = tcut_dC := by
  funext v
  simp only [tcut_d, tcut_dC, idx_eq, subl_eq, ieq_eqR, tarc_ceq, indexI_ceq, rfrom_ceq, tplace_ceq, asked_ceq, twith_ceq] <;> rfl

def tcutC (v : denL (leaves tcut_i)) : Option (denL (leaves tcut_o)) := tcut_dC v

theorem tcut_ceq : tcut = tcutC := by
  funext v
  rw [tcut_eq, tcut_d_ceq]; rfl


-- archipelago/archipelagolaw18.alive
abbrev alive18_i : Items := []
abbrev alive18_o : Items := [(.tmp 0, .dat .bool)]
abbrev alive18_r : List RS := [.one]
def alive18_d : (Unit) → Option ((Bool × Unit)) := fun _ =>
  match tmake ((3 : Int), ()) with
  | none => none
  | some (y0, y1, y2, _) => match tlink ((y0, (y1, ())), (1 : Int), (0 : Int), ()) with
    | none => none
    | some (y3, y4, y5, _) => match tlink ((y3, (y4, ())), (0 : Int), (2 : Int), ()) with
      | none => none
      | some (y6, y7, y8, _) => match tlink ((y6, (y7, ())), (2 : Int), (1 : Int), ()) with
        | none => none
        | some (y9, y10, y11, _) => match tcut ((y6, (y7, ())), (2 : Int), (0 : Int), ()) with
          | none => none
          | some (y12, y13, y14, _) => match tcut ((y12, (y13, ())), (2 : Int), (0 : Int), ()) with
            | none => none
            | some (y15, y16, y17, _) => match tarc ((3 : Int), (2 : Int), (1 : Int), ()) with
              | none => none
              | some (y18, _) => match ttoken ((3 : Int), y18, ()) with
                | none => none
                | some (y19, y20, y21, y22, _) => match (!(ieq y2 (0 : Int))) with
                  | true => some (false, ())
                  | false => match (!(ieq y5 (0 : Int))) with
                    | true => some (false, ())
                    | false => match (!(ieq y8 (0 : Int))) with
                      | true => some (false, ())
                      | false => match (!(ieq y11 (5 : Int))) with
                        | true => some (false, ())
                        | false => match (!(ieq y14 (0 : Int))) with
                          | true => some (false, ())
                          | false => match (!(ieq y17 (6 : Int))) with
                            | true => some (false, ())
                            | false => match (!(ieq (dlen y7) (1 : Int))) with
                              | true => some (false, ())
                              | false => match (!(ieq (dlen y4) (2 : Int))) with
                                | true => some (false, ())
                                | false => match idx y4 (0 : Int) with
                                  | none => none
                                  | some x23 => match ints01 (x23, ([(0 : Int), (4 : Int), (1 : Int), (6 : Int)] : List (Int)), ()) with
                                    | none => none
                                    | some (y24, _) => match y24 with
                                      | true => match idx y7 (0 : Int) with
                                        | none => none
                                        | some x25 => match ints01 (x25, ([(0 : Int), (5 : Int), (2 : Int), (9 : Int), (4 : Int), (1 : Int), (6 : Int)] : List (Int)), ()) with
                                          | none => none
                                          | some (y26, _) => match y26 with
                                            | true => match same18 ((y12, (y13, ())), (y3, (y4, ())), ()) with
                                              | none => none
                                              | some (y27, _) => match y27 with
                                                | true => match tof ((y6, (y7, ())), (2 : Int), ()) with
                                                  | none => none
                                                  | some (y28, _) => match (ieq y28 (0 : Int)) with
                                                    | true => match tright ((y6, (y7, ())), ()) with
                                                      | none => none
                                                      | some (y29, _) => match y29 with
                                                        | true => match (ieq y19 (2 : Int)) with
                                                          | true => match (ieq y20 (1 : Int)) with
                                                            | true => match y21 with
                                                              | true => match y22 with
                                                                | true => match tvertex ((3 : Int), (3 : Int), ()) with
                                                                  | none => none
                                                                  | some (y30, _) => some ((ieq y30 (-1 : Int)), ())
                                                                | false => some (false, ())
                                                              | false => some (false, ())
                                                            | false => some (false, ())
                                                          | false => some (false, ())
                                                        | false => some (false, ())
                                                    | false => some (false, ())
                                                | false => some (false, ())
                                            | false => some (false, ())
                                      | false => some (false, ())
def alive18 (v : (Unit)) : Option ((Bool × Unit)) := lock (alive18_d v)
theorem alive18_eq (v : (Unit)) : alive18 v = alive18_d v := lock_eq _
def alive18_dC : (Unit) → Option ((Bool × Unit)) := fun _ =>
  match tmakeC ((3 : Int), ()) with
  | none => none
  | some (y0, y1, y2, _) => match tlinkC ((y0, (y1, ())), (1 : Int), (0 : Int), ()) with
    | none => none
    | some (y3, y4, y5, _) => match tlinkC ((y3, (y4, ())), (0 : Int), (2 : Int), ()) with
      | none => none
      | some (y6, y7, y8, _) => match tlinkC ((y6, (y7, ())), (2 : Int), (1 : Int), ()) with
        | none => none
        | some (y9, y10, y11, _) => match tcutC ((y6, (y7, ())), (2 : Int), (0 : Int), ()) with
          | none => none
          | some (y12, y13, y14, _) => match tcutC ((y12, (y13, ())), (2 : Int), (0 : Int), ()) with
            | none => none
            | some (y15, y16, y17, _) => match tarcC ((3 : Int), (2 : Int), (1 : Int), ()) with
              | none => none
              | some (y18, _) => match ttokenC ((3 : Int), y18, ()) with
                | none => none
                | some (y19, y20, y21, y22, _) => match (!(ieqR y2 (0 : Int))) with
                  | true => some (false, ())
                  | false => match (!(ieqR y5 (0 : Int))) with
                    | true => some (false, ())
                    | false => match (!(ieqR y8 (0 : Int))) with
                      | true => some (false, ())
                      | false => match (!(ieqR y11 (5 : Int))) with
                        | true => some (false, ())
                        | false => match (!(ieqR y14 (0 : Int))) with
                          | true => some (false, ())
                          | false => match (!(ieqR y17 (6 : Int))) with
                            | true => some (false, ())
                            | false => match (!(ieqR (dlen y7) (1 : Int))) with
                              | true => some (false, ())
                              | false => match (!(ieqR (dlen y4) (2 : Int))) with
                                | true => some (false, ())
                                | false => match idxR y4 (0 : Int) with
                                  | none => none
                                  | some x23 => match ints01C (x23, ([(0 : Int), (4 : Int), (1 : Int), (6 : Int)] : List (Int)), ()) with
                                    | none => none
                                    | some (y24, _) => match y24 with
                                      | true => match idxR y7 (0 : Int) with
                                        | none => none
                                        | some x25 => match ints01C (x25, ([(0 : Int), (5 : Int), (2 : Int), (9 : Int), (4 : Int), (1 : Int), (6 : Int)] : List (Int)), ()) with
                                          | none => none
                                          | some (y26, _) => match y26 with
                                            | true => match same18C ((y12, (y13, ())), (y3, (y4, ())), ()) with
                                              | none => none
                                              | some (y27, _) => match y27 with
                                                | true => match tofC ((y6, (y7, ())), (2 : Int), ()) with
                                                  | none => none
                                                  | some (y28, _) => match (ieqR y28 (0 : Int)) with
                                                    | true => match trightC ((y6, (y7, ())), ()) with
                                                      | none => none
                                                      | some (y29, _) => match y29 with
                                                        | true => match (ieqR y19 (2 : Int)) with
                                                          | true => match (ieqR y20 (1 : Int)) with
                                                            | true => match y21 with
                                                              | true => match y22 with
                                                                | true => match tvertexC ((3 : Int), (3 : Int), ()) with
                                                                  | none => none
                                                                  | some (y30, _) => some ((ieqR y30 (-1 : Int)), ())
                                                                | false => some (false, ())
                                                              | false => some (false, ())
                                                            | false => some (false, ())
                                                          | false => some (false, ())
                                                        | false => some (false, ())
                                                    | false => some (false, ())
                                                | false => some (false, ())
                                            | false => some (false, ())
                                      | false => some (false, ())

theorem alive18_d_ceq : alive18_d = alive18_dC := by
  funext v
  simp only [alive18_d, alive18_dC, idx_eq, ieq_eqR, ints01_ceq, same18_ceq, tvertex_ceq, tarc_ceq, ttoken_ceq, tmake_ceq, tright_ceq, tof_ceq, tlink_ceq, tcut_ceq] <;> rfl

def alive18C (v : denL (leaves alive18_i)) : Option (denL (leaves alive18_o)) := alive18_dC v

theorem alive18_ceq : alive18 = alive18C := by
  funext v
  rw [alive18_eq, alive18_d_ceq]; rfl


-- archipelago/archipelagolaw18.TourAnswers
abbrev tourAnswers_i : Items := [(.tmp 0, .dat (.prod (.int .i64) (.prod (.slice (.slice (.int .i64))) .unit))), (.tmp 1, .dat (.int .i64)), (.tmp 2, .dat (.int .i64))]
abbrev tourAnswers_o : Items := [(.tmp 0, .dat .bool)]
abbrev tourAnswers_r : List RS := [.one]
def tourAnswers_d : ((Int × (List (List Int)) × Unit) × Int × Int × Unit) → Option ((Bool × Unit)) := fun (a0, a1, a2, _) =>
  match alive18 () with
  | none => none
  | some (y0, _) => match (!y0) with
    | true => some (false, ())
    | false => match great18 ((a0.1, (a0.2.1, ())), (120 : Int), ()) with
      | none => none
      | some (y1, _) => match y1 with
        | true => some (true, ())
        | false => match tlink ((a0.1, (a0.2.1, ())), a1, a2, ()) with
          | none => none
          | some (y2, y3, y4, _) => match link18 ((a0.1, (a0.2.1, ())), a1, a2, ()) with
            | none => none
            | some (y5, y6, y7, _) => match tcut ((a0.1, (a0.2.1, ())), a1, a2, ()) with
              | none => none
              | some (y8, y9, y10, _) => match cut18 ((a0.1, (a0.2.1, ())), a1, a2, ()) with
                | none => none
                | some (y11, y12, y13, _) => match same18 ((y2, (y3, ())), (y5, (y6, ())), ()) with
                  | none => none
                  | some (y14, _) => match y14 with
                    | true => match (ieq y4 y7) with
                      | true => match same18 ((y8, (y9, ())), (y11, (y12, ())), ()) with
                        | none => none
                        | some (y15, _) => match y15 with
                          | true => match (ieq y10 y13) with
                            | true => match tright ((a0.1, (a0.2.1, ())), ()) with
                              | none => none
                              | some (y16, _) => match right18 ((a0.1, (a0.2.1, ())), ()) with
                                | none => none
                                | some (y17, _) => match (y16 == y17) with
                                  | true => match tof ((a0.1, (a0.2.1, ())), a1, ()) with
                                    | none => none
                                    | some (y18, _) => match of18 ((a0.1, (a0.2.1, ())), a1, ()) with
                                      | none => none
                                      | some (y19, _) => some ((ieq y18 y19), ())
                                  | false => some (false, ())
                            | false => some (false, ())
                          | false => some (false, ())
                      | false => some (false, ())
                    | false => some (false, ())
def tourAnswers (v : ((Int × (List (List Int)) × Unit) × Int × Int × Unit)) : Option ((Bool × Unit)) := lock (tourAnswers_d v)
theorem tourAnswers_eq (v : ((Int × (List (List Int)) × Unit) × Int × Int × Unit)) : tourAnswers v = tourAnswers_d v := lock_eq _

-- archipelago/archipelagolaw18.TourTokens
abbrev tourTokens_i : Items := [(.tmp 0, .dat (.int .i64)), (.tmp 1, .dat (.int .i64)), (.tmp 2, .dat (.int .i64))]
abbrev tourTokens_o : Items := [(.tmp 0, .dat .bool)]
abbrev tourTokens_r : List RS := [.one]
def tourTokens_d : (Int × Int × Int × Unit) → Option ((Bool × Unit)) := fun (a0, a1, a2, _) =>
  match alive18 () with
  | none => none
  | some (y0, _) => match (!y0) with
    | true => some (false, ())
    | false => match ttoken (a0, a1, ()) with
      | none => none
      | some (y1, y2, y3, y4, _) => match token18 (a0, a1, ()) with
        | none => none
        | some (y5, y6, y7, y8, _) => match tmake (a0, ()) with
          | none => none
          | some (y9, y10, y11, _) => match make18 (a0, ()) with
            | none => none
            | some (y12, y13, y14, _) => match (!(ieq y1 y5)) with
              | true => some (false, ())
              | false => match (!(ieq y2 y6)) with
                | true => some (false, ())
                | false => match (!(y3 == y7)) with
                  | true => some (false, ())
                  | false => match (!(y4 == y8)) with
                    | true => some (false, ())
                    | false => match tvertex (a0, a1, ()) with
                      | none => none
                      | some (y15, _) => match vertex18 (a0, a1, ()) with
                        | none => none
                        | some (y16, _) => match (!(ieq y15 y16)) with
                          | true => some (false, ())
                          | false => match tarc (a0, a1, a2, ()) with
                            | none => none
                            | some (y17, _) => match arc18 (a0, a1, a2, ()) with
                              | none => none
                              | some (y18, _) => match (!(ieq y17 y18)) with
                                | true => some (false, ())
                                | false => match same18 ((y9, (y10, ())), (y12, (y13, ())), ()) with
                                  | none => none
                                  | some (y19, _) => match (!y19) with
                                    | true => some (false, ())
                                    | false => match (!(ieq y11 y14)) with
                                      | true => some (false, ())
                                      | false => match tarc (a0, a1, a2, ()) with
                                        | none => none
                                        | some (y20, _) => match (ile (0 : Int) y20) with
                                          | true => match ttoken (a0, y20, ()) with
                                            | none => none
                                            | some (y21, y22, y23, y24, _) => match (ieq y21 a1) with
                                              | true => match (ieq y22 a2) with
                                                | true => match y23 with
                                                  | true => some (y24, ())
                                                  | false => some (false, ())
                                                | false => some (false, ())
                                              | false => some (false, ())
                                          | false => match (!y4) with
                                            | true => some (true, ())
                                            | false => match y3 with
                                              | true => match tarc (a0, y1, y2, ()) with
                                                | none => none
                                                | some (y25, _) => match (ieq y25 a1) with
                                                  | true => some (true, ())
                                                  | false => match (!y3) with
                                                    | true => match tvertex (a0, y1, ()) with
                                                      | none => none
                                                      | some (y26, _) => some ((ieq y26 a1), ())
                                                    | false => some (false, ())
                                              | false => match (!y3) with
                                                | true => match tvertex (a0, y1, ()) with
                                                  | none => none
                                                  | some (y27, _) => some ((ieq y27 a1), ())
                                                | false => some (false, ())
def tourTokens (v : (Int × Int × Int × Unit)) : Option ((Bool × Unit)) := lock (tourTokens_d v)
theorem tourTokens_eq (v : (Int × Int × Int × Unit)) : tourTokens v = tourTokens_d v := lock_eq _

-- archipelago/archipelagolaw18.TourBack
abbrev tourBack_i : Items := [(.tmp 0, .dat (.prod (.int .i64) (.prod (.slice (.slice (.int .i64))) .unit))), (.tmp 1, .dat (.int .i64)), (.tmp 2, .dat (.int .i64))]
abbrev tourBack_o : Items := [(.tmp 0, .dat .bool)]
abbrev tourBack_r : List RS := [.one]
def tourBack_d : ((Int × (List (List Int)) × Unit) × Int × Int × Unit) → Option ((Bool × Unit)) := fun (a0, a1, a2, _) =>
  match alive18 () with
  | none => none
  | some (y0, _) => match (!y0) with
    | true => some (false, ())
    | false => match great18 ((a0.1, (a0.2.1, ())), (120 : Int), ()) with
      | none => none
      | some (y1, _) => match y1 with
        | true => some (true, ())
        | false => match tlink ((a0.1, (a0.2.1, ())), a1, a2, ()) with
          | none => none
          | some (y2, y3, y4, _) => match (!(ieq y4 (0 : Int))) with
            | true => match same18 ((y2, (y3, ())), (a0.1, (a0.2.1, ())), ()) with
              | none => none
              | some (y5, _) => some (y5, ())
            | false => match tcut ((y2, (y3, ())), a1, a2, ()) with
              | none => none
              | some (y6, y7, y8, _) => match tcut ((y2, (y3, ())), a2, a1, ()) with
                | none => none
                | some (y9, y10, y11, _) => match (ieq y8 (0 : Int)) with
                  | true => match (ieq y11 (0 : Int)) with
                    | true => match same18 ((y6, (y7, ())), (a0.1, (a0.2.1, ())), ()) with
                      | none => none
                      | some (y12, _) => match y12 with
                        | true => match same18 ((y9, (y10, ())), (a0.1, (a0.2.1, ())), ()) with
                          | none => none
                          | some (y13, _) => match y13 with
                            | true => match right18 ((y2, (y3, ())), ()) with
                              | none => none
                              | some (y14, _) => match y14 with
                                | true => match (ieq (dlen y3) (IntKind.wrap .i64 ((dlen a0.2.1) - (1 : Int)))) with
                                  | true => match tof ((y2, (y3, ())), a1, ()) with
                                    | none => none
                                    | some (y15, _) => match tof ((y2, (y3, ())), a2, ()) with
                                      | none => none
                                      | some (y16, _) => some ((ieq y15 y16), ())
                                  | false => some (false, ())
                                | false => some (false, ())
                            | false => some (false, ())
                        | false => some (false, ())
                    | false => some (false, ())
                  | false => some (false, ())
def tourBack (v : ((Int × (List (List Int)) × Unit) × Int × Int × Unit)) : Option ((Bool × Unit)) := lock (tourBack_d v)
theorem tourBack_eq (v : ((Int × (List (List Int)) × Unit) × Int × Int × Unit)) : tourBack v = tourBack_d v := lock_eq _

-- archipelago/archipelagolaw18.TourArcs
abbrev tourArcs_i : Items := [(.tmp 0, .dat (.int .u8)), (.tmp 1, .dat (.slice (.arr 2 (.int .u8))))]
abbrev tourArcs_o : Items := [(.tmp 0, .dat .bool)]
abbrev tourArcs_r : List RS := [.one]
abbrev tourArcs_i2 : Items := [(.tmp 5, .dat (.int .i64)), (.tmp 6, .box 2), (.cell 0 0, .dat (.int .i64)), (.cell 0 1, .dat (.slice (.slice (.int .i64)))), (.tmp 8, .dat (.int .i64)), (.tmp 12, .dat (.int .i64)), (.tmp 13, .dat (.int .i64)), (.tmp 14, .dat (.int .i64)), (.tmp 15, .dat (.int .i64))]
abbrev tourArcs_o2 : Outs := [(.ret, [(.tmp 4, .dat .bool)]), (.exit 4, [(.tmp 5, .dat (.int .i64)), (.tmp 6, .box 2), (.cell 0 0, .dat (.int .i64)), (.cell 0 1, .dat (.slice (.slice (.int .i64)))), (.tmp 8, .dat (.int .i64)), (.tmp 12, .dat (.int .i64)), (.tmp 13, .dat (.int .i64)), (.tmp 14, .dat (.int .i64))])]
def tourArcs_s2 : (Int × Int × List (List Int) × Int × Int × Int × Int × Int × Unit) → Option ((Int × Int × List (List Int) × Int × Int × Int × Int × Int × Unit) ⊕ (Bool × Unit) ⊕ (Int × Int × List (List Int) × Int × Int × Int × Int × Unit) ⊕ Unit) := fun (a0, a1, a2, a3, a4, a5, a6, a7, _) =>
  match idx a2 a5 with
  | none => none
  | some x0 => match (ilt a7 (dlen x0)) with
    | true => match idx a2 a5 with
      | none => none
      | some x1 => match idx x1 a7 with
        | none => none
        | some x2 => match ttoken (a0, x2, ()) with
          | none => none
          | some (y3, y4, y5, y6, _) => match (!y6) with
            | true => some (.inr (.inl (false, ())))
            | false => match y5 with
              | true => match idx a2 a5 with
                | none => none
                | some x7 => match tarc (a0, y4, y3, ()) with
                  | none => none
                  | some (y8, _) => match place13 (x7, y8, ()) with
                    | none => none
                    | some (y9, _) => match (ilt y9 (0 : Int)) with
                      | true => some (.inr (.inl (false, ())))
                      | false => match (!y5) with
                        | true => some (.inl (a0, a1, a2, a3, a4, a5, (IntKind.wrap .i64 (a6 + (1 : Int))), (IntKind.wrap .i64 (a7 + (1 : Int))), ()))
                        | false => some (.inl (a0, a1, a2, a3, a4, a5, a6, (IntKind.wrap .i64 (a7 + (1 : Int))), ()))
              | false => match (!y5) with
                | true => some (.inl (a0, a1, a2, a3, a4, a5, (IntKind.wrap .i64 (a6 + (1 : Int))), (IntKind.wrap .i64 (a7 + (1 : Int))), ()))
                | false => some (.inl (a0, a1, a2, a3, a4, a5, a6, (IntKind.wrap .i64 (a7 + (1 : Int))), ()))
    | false => some (.inr (.inr (.inl (a0, a1, a2, a3, a4, a5, a6, ()))))
abbrev tourArcs_i1 : Items := [(.tmp 5, .dat (.int .i64)), (.tmp 6, .box 2), (.cell 0 0, .dat (.int .i64)), (.cell 0 1, .dat (.slice (.slice (.int .i64)))), (.tmp 8, .dat (.int .i64)), (.tmp 12, .dat (.int .i64)), (.tmp 13, .dat (.int .i64))]
abbrev tourArcs_o1 : Outs := [(.ret, [(.tmp 4, .dat .bool)]), (.exit 2, [(.tmp 5, .dat (.int .i64)), (.tmp 6, .box 2), (.cell 0 0, .dat (.int .i64)), (.cell 0 1, .dat (.slice (.slice (.int .i64)))), (.tmp 8, .dat (.int .i64)), (.tmp 12, .dat (.int .i64))])]
def tourArcs_s1 : (Int × Int × List (List Int) × Int × Int × Int × Unit) → Option ((Int × Int × List (List Int) × Int × Int × Int × Unit) ⊕ (Bool × Unit) ⊕ (Int × Int × List (List Int) × Int × Int × Unit) ⊕ Unit) := fun (a0, a1, a2, a3, a4, a5, _) =>
  match (ilt a5 (dlen a2)) with
  | true => match iterL tourArcs_s2 many (a0, a1, a2, a3, a4, a5, (0 : Int), (0 : Int), ()) with
    | none => none
    | some r => match r with
      | .inl (o0, _) => some (.inr (.inl (o0, ())))
      | .inr r => match r with
        | .inl (o1, o2, o3, o4, o5, o6, o7, _) => match idx o3 o6 with
          | none => none
          | some x8 => match (!(ieq (dlen x8) (IntKind.wrap .i64 ((IntKind.wrap .i64 ((3 : Int) * o7)) - (2 : Int))))) with
            | true => some (.inr (.inl (false, ())))
            | false => some (.inl (o1, o2, o3, o4, (IntKind.wrap .i64 (o5 + o7)), (IntKind.wrap .i64 (o6 + (1 : Int))), ()))
        | .inr _ => none
  | false => some (.inr (.inr (.inl (a0, a1, a2, a3, a4, ()))))
abbrev tourArcs_i0 : Items := [(.tmp 1, .dat (.slice (.arr 2 (.int .u8)))), (.tmp 5, .dat (.int .i64)), (.tmp 6, .box 2), (.cell 0 0, .dat (.int .i64)), (.cell 0 1, .dat (.slice (.slice (.int .i64)))), (.tmp 8, .dat (.int .i64)), (.tmp 9, .dat (.int .i64))]
abbrev tourArcs_o0 : Outs := [(.ret, [(.tmp 4, .dat .bool)]), (.exit 0, [(.tmp 5, .dat (.int .i64)), (.tmp 6, .box 2), (.cell 0 0, .dat (.int .i64)), (.cell 0 1, .dat (.slice (.slice (.int .i64)))), (.tmp 8, .dat (.int .i64))])]
def tourArcs_s0 : (List (List Int) × Int × Int × List (List Int) × Int × Int × Unit) → Option ((List (List Int) × Int × Int × List (List Int) × Int × Int × Unit) ⊕ (Bool × Unit) ⊕ (Int × Int × List (List Int) × Int × Unit) ⊕ Unit) := fun (a0, a1, a2, a3, a4, a5, _) =>
  match (ilt a5 (dlen a0)) with
  | true => match idx a0 a5 with
    | none => none
    | some x0 => match rem? (IntKind.wrap .i64 (dget x0 0 (0 : Int))) a1 with
      | none => none
      | some x1 => match idx a0 a5 with
        | none => none
        | some x2 => match rem? (IntKind.wrap .i64 (dget x2 1 (0 : Int))) a1 with
          | none => none
          | some x3 => match tlink ((a2, (a3, ())), x1, x3, ()) with
            | none => none
            | some (y4, y5, y6, _) => match (ieq y6 (0 : Int)) with
              | true => some (.inl (a0, a1, y4, y5, (IntKind.wrap .i64 (a4 + (1 : Int))), (IntKind.wrap .i64 (a5 + (1 : Int))), ()))
              | false => match (!(ieq y6 (5 : Int))) with
                | true => some (.inr (.inl (false, ())))
                | false => some (.inl (a0, a1, y4, y5, a4, (IntKind.wrap .i64 (a5 + (1 : Int))), ()))
  | false => some (.inr (.inr (.inl (a1, a2, a3, a4, ()))))
def tourArcs_d : (Int × List (List Int) × Unit) → Option ((Bool × Unit)) := fun (a0, a1, _) =>
  match alive18 () with
  | none => none
  | some (y0, _) => match (!y0) with
    | true => some (false, ())
    | false => match (ilt (60 : Int) (dlen a1)) with
      | true => some (true, ())
      | false => match rem? (IntKind.wrap .i64 a0) (12 : Int) with
        | none => none
        | some x1 => match tmake ((IntKind.wrap .i64 ((1 : Int) + x1)), ()) with
          | none => none
          | some (y2, y3, y4, _) => match (!(ieq y4 (0 : Int))) with
            | true => some (false, ())
            | false => match iterL tourArcs_s0 many (a1, (IntKind.wrap .i64 ((1 : Int) + x1)), y2, y3, (0 : Int), (0 : Int), ()) with
              | none => none
              | some r => match r with
                | .inl (o5, _) => some (o5, ())
                | .inr r => match r with
                  | .inl (o6, o7, o8, o9, _) => match iterL tourArcs_s1 many (o6, o7, o8, o9, (0 : Int), (0 : Int), ()) with
                    | none => none
                    | some r => match r with
                      | .inl (o10, _) => some (o10, ())
                      | .inr r => match r with
                        | .inl (o11, o12, o13, o14, o15, _) => match (ieq o15 o11) with
                          | true => match (ieq (dlen o13) (IntKind.wrap .i64 (o11 - o14))) with
                            | true => match tright ((o12, (o13, ())), ()) with
                              | none => none
                              | some (y16, _) => some (y16, ())
                            | false => some (false, ())
                          | false => some (false, ())
                        | .inr _ => none
                  | .inr _ => none
def tourArcs (v : (Int × List (List Int) × Unit)) : Option ((Bool × Unit)) := lock (tourArcs_d v)
theorem tourArcs_eq (v : (Int × List (List Int) × Unit)) : tourArcs v = tourArcs_d v := lock_eq _

-- archipelago/archipelagolaw18.TourCuts
abbrev tourCuts_i : Items := [(.tmp 0, .dat (.prod (.int .i64) (.prod (.slice (.slice (.int .i64))) .unit))), (.tmp 1, .dat (.int .i64)), (.tmp 2, .dat (.int .i64))]
abbrev tourCuts_o : Items := [(.tmp 0, .dat .bool)]
abbrev tourCuts_r : List RS := [.one]
abbrev tourCuts_i0 : Items := [(.tmp 1, .dat (.int .i64)), (.tmp 3, .box 2), (.cell 0 0, .dat (.int .i64)), (.cell 0 1, .dat (.slice (.slice (.int .i64)))), (.tmp 9, .box 2), (.cell 1 0, .dat (.int .i64)), (.cell 1 1, .dat (.slice (.slice (.int .i64)))), (.tmp 13, .dat (.int .i64))]
abbrev tourCuts_o0 : Outs := [(.ret, [(.tmp 6, .dat .bool)]), (.exit 0, [])]
def tourCuts_s0 : (Int × Int × List (List Int) × Int × List (List Int) × Int × Unit) → Option ((Int × Int × List (List Int) × Int × List (List Int) × Int × Unit) ⊕ (Bool × Unit) ⊕ (Unit) ⊕ Unit) := fun (a0, a1, a2, a3, a4, a5, _) =>
  match (ilt a5 a1) with
  | true => match tof ((a3, (a4, ())), a5, ()) with
    | none => none
    | some (y0, _) => match tof ((a3, (a4, ())), a0, ()) with
      | none => none
      | some (y1, _) => match tof ((a1, (a2, ())), a5, ()) with
        | none => none
        | some (y2, _) => match tof ((a1, (a2, ())), a0, ()) with
          | none => none
          | some (y3, _) => match (!((ieq y0 y1) == (ieq y2 y3))) with
            | true => some (.inr (.inl (false, ())))
            | false => some (.inl (a0, a1, a2, a3, a4, (IntKind.wrap .i64 (a5 + (1 : Int))), ()))
  | false => some (.inr (.inr (.inl ())))
def tourCuts_d : ((Int × (List (List Int)) × Unit) × Int × Int × Unit) → Option ((Bool × Unit)) := fun (a0, a1, a2, _) =>
  match alive18 () with
  | none => none
  | some (y0, _) => match (!y0) with
    | true => some (false, ())
    | false => match great18 ((a0.1, (a0.2.1, ())), (120 : Int), ()) with
      | none => none
      | some (y1, _) => match y1 with
        | true => some (true, ())
        | false => match tcut ((a0.1, (a0.2.1, ())), a1, a2, ()) with
          | none => none
          | some (y2, y3, y4, _) => match (!(ieq y4 (0 : Int))) with
            | true => match same18 ((y2, (y3, ())), (a0.1, (a0.2.1, ())), ()) with
              | none => none
              | some (y5, _) => some (y5, ())
            | false => match right18 ((y2, (y3, ())), ()) with
              | none => none
              | some (y6, _) => match (!y6) with
                | true => some (false, ())
                | false => match (!(ieq (dlen y3) (IntKind.wrap .i64 ((dlen a0.2.1) + (1 : Int))))) with
                  | true => some (false, ())
                  | false => match tof ((y2, (y3, ())), a1, ()) with
                    | none => none
                    | some (y7, _) => match tof ((y2, (y3, ())), a2, ()) with
                      | none => none
                      | some (y8, _) => match (ieq y7 y8) with
                        | true => some (false, ())
                        | false => match tof ((a0.1, (a0.2.1, ())), a1, ()) with
                          | none => none
                          | some (y9, _) => match tof ((a0.1, (a0.2.1, ())), a2, ()) with
                            | none => none
                            | some (y10, _) => match (!(ieq y9 y10)) with
                              | true => some (false, ())
                              | false => match tlink ((y2, (y3, ())), a1, a2, ()) with
                                | none => none
                                | some (y11, y12, y13, _) => match tcut ((y2, (y3, ())), a1, a2, ()) with
                                  | none => none
                                  | some (y14, y15, y16, _) => match (!(ieq y13 (0 : Int))) with
                                    | true => some (false, ())
                                    | false => match (!(ieq y16 (6 : Int))) with
                                      | true => some (false, ())
                                      | false => match (!(ieq (dlen y12) (dlen a0.2.1))) with
                                        | true => some (false, ())
                                        | false => match iterL tourCuts_s0 many (a1, a0.1, a0.2.1, y11, y12, (0 : Int), ()) with
                                          | none => none
                                          | some r => match r with
                                            | .inl (o17, _) => some (o17, ())
                                            | .inr r => match r with
                                              | .inl _ => some (true, ())
                                              | .inr _ => none
def tourCuts (v : ((Int × (List (List Int)) × Unit) × Int × Int × Unit)) : Option ((Bool × Unit)) := lock (tourCuts_d v)
theorem tourCuts_eq (v : ((Int × (List (List Int)) × Unit) × Int × Int × Unit)) : tourCuts v = tourCuts_d v := lock_eq _

end
end Go.Pev
end
section
/- The models of functions. -/
end
section
/- A small kit for the plain laws: loops, numbers, lists. -/
namespace Go.Pev.Pl
theorem wrap_in {n : Int} (h : -9223372036854775808 ≤ n ∧ n ≤ 9223372036854775807) : IntKind.wrap .i64 n = n := IntWalk.i64_in n h

/-- a loop ends in what Q says, by an invariant and a measure -/
theorem iter_rule {σ ρ : Type} {step : σ → Option (σ ⊕ ρ)} (I : σ → Prop) (Q : ρ → Prop) (m : σ → Nat)
    (h : ∀ v, I v → (∃ v', step v = some (.inl v') ∧ I v' ∧ m v' < m v) ∨ (∃ r, step v = some (.inr r) ∧ Q r)) :
    ∀ n v, I v → m v < n → ∃ r, iterO step n v = some r ∧ Q r := by
  intro n
  induction n with
  | zero => intro v _ hn; omega
  | succ n ih =>
    intro v hv hn
    rcases h v hv with ⟨v', e, hi, hm⟩ | ⟨r, e, hq⟩
    · rw [iterO, e]
      exact ih v' hi (by omega)
    · rw [iterO, e]
      exact ⟨r, rfl, hq⟩

theorem iterL_rule {σ ρ : Type} {step : σ → Option (σ ⊕ ρ)} (I : σ → Prop) (Q : ρ → Prop) (m : σ → Nat)
    (h : ∀ v, I v → (∃ v', step v = some (.inl v') ∧ I v' ∧ m v' < m v) ∨ (∃ r, step v = some (.inr r) ∧ Q r))
    (v : σ) (hi : I v) (hm : m v < many) : ∃ r, iterL step many v = some r ∧ Q r := by
  rw [iterL_eq]
  exact iter_rule I Q m h many v hi hm

/-- a loop computes F: states are of the form 'abs t' -/
theorem iter_sim {σ ρ τ : Type} {step : σ → Option (σ ⊕ ρ)} (abs : τ → σ) (I : τ → Prop) (F : τ → ρ) (m : τ → Nat)
    (h : ∀ t, I t → (∃ t', step (abs t) = some (.inl (abs t')) ∧ I t' ∧ m t' < m t ∧ F t' = F t) ∨ step (abs t) = some (.inr (F t))) :
    ∀ n t, I t → m t < n → iterO step n (abs t) = some (F t) := by
  intro n
  induction n with
  | zero => intro v _ hn; omega
  | succ n ih =>
    intro v hv hn
    rcases h v hv with ⟨v', e, hi, hm, hf⟩ | e
    · rw [iterO, e, ← hf]
      exact ih v' hi (by omega)
    · rw [iterO, e]

theorem iterL_sim {σ ρ τ : Type} {step : σ → Option (σ ⊕ ρ)} (abs : τ → σ) (I : τ → Prop) (F : τ → ρ) (m : τ → Nat)
    (h : ∀ t, I t → (∃ t', step (abs t) = some (.inl (abs t')) ∧ I t' ∧ m t' < m t ∧ F t' = F t) ∨ step (abs t) = some (.inr (F t)))
    (t : τ) (hi : I t) (hm : m t < many) : iterL step many (abs t) = some (F t) := by
  rw [iterL_eq]
  exact iter_sim abs I F m h many t hi hm

/- lists that are arrays -/
section
set_option linter.unusedSectionVars false
variable {α : Type} [Inhabited α]
theorem idx_at {d : Array α} {n : Nat} (h : n < d.size) : idx d.toList (n : Int) = some d[n]! := by
  rw [idx_eq, idxR, if_neg (by omega)]
  simp [h]
theorem dget_at {d : Array α} {n : Nat} {z : α} (h : n < d.size) : dget d.toList (dnat (n : Int)) z = d[n]! := by
  simp [dget, dnat, h]
theorem dset_at {d : Array α} {n : Nat} {x : α} : dset d.toList (dnat (n : Int)) x = (d.setIfInBounds n x).toList := by
  simp [dset, dnat]
theorem dlen_at {d : Array α} : dlen d.toList = (d.size : Int) := by simp [dlen]
theorem swp_fold (d : Array α) (i j : Nat) : (d.setIfInBounds i d[j]!).setIfInBounds j d[i]! = Go.Sort.swp d i j := rfl
theorem size_swp (d : Array α) (i j : Nat) : (Go.Sort.swp d i j).size = d.size := by simp [Go.Sort.swp]
end

theorem ilt_nat (a b : Nat) : ilt (a : Int) (b : Int) = decide (a < b) := by rw [ilt_eq]; simp
theorem ile_nat (a b : Nat) : ile (a : Int) (b : Int) = decide (a ≤ b) := by rw [ile_eq]; simp
theorem ieq_nat (a b : Nat) : ieq (a : Int) (b : Int) = decide (a = b) := by
  rw [ieq_eq]
  by_cases h : a = b
  · simp [h]
  · simp [h]; omega

section
theorem wrap_add {a b : Nat} (h : a + b < 9223372036854775808) : IntKind.wrap .i64 ((a : Int) + (b : Int)) = ((a + b : Nat) : Int) := by rw [wrap_in (by omega)]; omega
theorem wrap_add1 {a : Nat} (h : a + 1 < 9223372036854775808) : IntKind.wrap .i64 ((a : Int) + 1) = ((a + 1 : Nat) : Int) := by rw [wrap_in (by omega)]; omega
theorem wrap_2mul {a : Nat} (h : 2 * a < 9223372036854775808) : IntKind.wrap .i64 ((2 : Int) * (a : Int)) = ((2 * a : Nat) : Int) := by rw [wrap_in (by omega)]; omega
theorem wrap_mul1 {a : Nat} (h : a < 9223372036854775808) : IntKind.wrap .i64 ((a : Int) * 1) = ((a * 1 : Nat) : Int) := by rw [wrap_in (by omega)]; omega
theorem wrap_mul2 {a : Nat} (h : a * 2 < 9223372036854775808) : IntKind.wrap .i64 ((a : Int) * 2) = ((a * 2 : Nat) : Int) := by rw [wrap_in (by omega)]; omega
theorem wrap_mul3 {a : Nat} (h : a * 3 < 9223372036854775808) : IntKind.wrap .i64 ((a : Int) * 3) = ((a * 3 : Nat) : Int) := by rw [wrap_in (by omega)]; omega
theorem wrap_sub {a b : Nat} (h : b ≤ a ∧ a < 9223372036854775808) : IntKind.wrap .i64 ((a : Int) - (b : Int)) = ((a - b : Nat) : Int) := by rw [wrap_in (by omega)]; omega
theorem wrap_sub1 {a : Nat} (h : 1 ≤ a ∧ a < 9223372036854775808) : IntKind.wrap .i64 ((a : Int) - 1) = ((a - 1 : Nat) : Int) := by rw [wrap_in (by omega)]; omega
theorem quo_2 {a : Nat} (h : a < 9223372036854775808) : quo? .i64 (a : Int) 2 = some ((a / 2 : Nat) : Int) := by
  rw [quo_eq, quoR, if_neg (by omega), Int.tdiv_eq_ediv_of_nonneg (by omega), wrap_in (by omega)]; rfl
theorem quo_4 {a : Nat} (h : a < 9223372036854775808) : quo? .i64 (a : Int) 4 = some ((a / 4 : Nat) : Int) := by
  rw [quo_eq, quoR, if_neg (by omega), Int.tdiv_eq_ediv_of_nonneg (by omega), wrap_in (by omega)]; rfl
theorem quo_8 {a : Nat} (h : a < 9223372036854775808) : quo? .i64 (a : Int) 8 = some ((a / 8 : Nat) : Int) := by
  rw [quo_eq, quoR, if_neg (by omega), Int.tdiv_eq_ediv_of_nonneg (by omega), wrap_in (by omega)]; rfl
end
end Go.Pev.Pl
end
section
/- Lists by places; loops over a list. No program in sight. -/
namespace Go.Pev.Pl
section
variable {α : Type}
theorem idx_l {xs : List α} {n : Nat} (z : α) (h : n < xs.length) : idx xs (n : Int) = some (xs.getD n z) := by
  rw [idx_eq, idxR, if_neg (by omega)]
  simp [h]
theorem idx_ok {xs : List α} {n : Nat} (h : n < xs.length) : ∃ x, idx xs (n : Int) = some x := by
  rw [idx_eq, idxR, if_neg (by omega)]
  exact ⟨xs[n], by simp [h]⟩
theorem idx_get (xs : List α) (n : Nat) : idx xs (n : Int) = xs[n]? := by
  rw [idx_eq, idxR, if_neg (by omega)]
  simp
theorem idx_zero (xs : List α) : idx xs (0 : Int) = xs.head? := by
  rw [idx_eq, idxR, if_neg (by omega)]
  cases xs <;> rfl
theorem dget_l (xs : List α) (n : Nat) (z : α) : dget xs (dnat (n : Int)) z = xs.getD n z := by simp [dget, dnat]
theorem dset_l (xs : List α) (n : Nat) (x : α) : dset xs (dnat (n : Int)) x = xs.set n x := by simp [dset, dnat]
theorem dlen_l (xs : List α) : dlen xs = (xs.length : Int) := rfl
theorem dnat_l (n : Nat) : dnat (n : Int) = n := by simp [dnat]
theorem dapp_l (xs ys : List α) : dapp xs ys = xs ++ ys := rfl
theorem subl_l {xs : List α} {l h : Nat} (h1 : l ≤ h) (h2 : h ≤ xs.length) : subl xs (l : Int) (h : Int) = some ((xs.take h).drop l) := by
  rw [subl_eq, sublR, if_pos (by omega)]
  simp
end
theorem fits_l {n : Int} (h : n ≤ 4294967296) : fits n = true := (fits_iff n).2 h
theorem cloneF_val {α : Type} {xs : List α} (h : xs.length ≤ 4294967296) : cloneF xs = some xs := by
  rw [cloneF_eq, cloneR, (fitsR_iff _).2 (by rw [dlen_l]; omega)]

theorem ieq_dlen {α β : Type} (xs : List α) (ys : List β) : ieq (dlen xs) (dlen ys) = decide (xs.length = ys.length) := by rw [dlen_l, dlen_l, ieq_nat]
theorem ieq_dec (a b : Int) : ieq a b = decide (a = b) := by
  rw [ieq_eq]
  by_cases h : a = b <;> simp [h]

/-- what a loop over a list comes to -/
def walk {α β ρ : Type} (f : β → α → α ⊕ ρ) (fin : α → ρ) : List β → α → ρ
  | [], a => fin a
  | x :: xs, a => match f x a with
    | .inl a => walk f fin xs a
    | .inr r => r

/-- a loop over a list, by places -/
theorem walk_rule {σ ρ α β : Type} {step : σ → Option (σ ⊕ ρ)} (st : Nat → α → σ) (xs : List β) (f : β → α → α ⊕ ρ) (fin : α → ρ) (I : Nat → α → Prop)
    (h : ∀ i x a, i < xs.length → xs[i]? = some x → I i a → (∀ a', f x a = .inl a' → step (st i a) = some (.inl (st (i + 1) a')) ∧ I (i + 1) a') ∧ (∀ r, f x a = .inr r → step (st i a) = some (.inr r)))
    (hN : ∀ a, I xs.length a → step (st xs.length a) = some (.inr (fin a))) :
    ∀ (m i n : Nat) (a : α), xs.length - i = m → i ≤ xs.length → m < n → I i a → iterO step n (st i a) = some (walk f fin (xs.drop i) a) := by
  intro m
  induction m with
  | zero =>
    intro i n a hk hi hn hI
    obtain ⟨n, rfl⟩ : ∃ k, n = k + 1 := ⟨n - 1, by omega⟩
    have e : i = xs.length := by omega
    subst e
    rw [iterO, hN a hI, List.drop_length]
    rfl
  | succ m ih =>
    intro i n a hk hi hn hI
    obtain ⟨n, rfl⟩ : ∃ k, n = k + 1 := ⟨n - 1, by omega⟩
    have hi' : i < xs.length := by omega
    obtain ⟨g1, g2⟩ := h i xs[i] a hi' (by simp [hi']) hI
    rw [List.drop_eq_getElem_cons hi', walk, iterO]
    cases hf : f xs[i] a with
    | inl a' =>
      obtain ⟨e, hI'⟩ := g1 a' hf
      rw [e]
      exact ih (i + 1) n a' (by omega) (by omega) (by omega) hI'
    | inr r => rw [g2 r hf]

theorem walkL {σ ρ α β : Type} {step : σ → Option (σ ⊕ ρ)} (st : Nat → α → σ) (xs : List β) (f : β → α → α ⊕ ρ) (fin : α → ρ) (I : Nat → α → Prop) (hs : xs.length < 4294967296)
    (h : ∀ i x a, i < xs.length → xs[i]? = some x → I i a → (∀ a', f x a = .inl a' → step (st i a) = some (.inl (st (i + 1) a')) ∧ I (i + 1) a') ∧ (∀ r, f x a = .inr r → step (st i a) = some (.inr r)))
    (hN : ∀ a, I xs.length a → step (st xs.length a) = some (.inr (fin a))) (a : α) (h0 : I 0 a) : iterL step many (st 0 a) = some (walk f fin xs a) := by
  have hm : 4294967296 < many := by simp only [many]; omega
  rw [iterL_eq, walk_rule st xs f fin I h hN xs.length 0 many a (by omega) (by omega) (by omega) h0]
  rfl

/-- a loop over a list that looks for one of which P holds: its place -/
theorem walk_find {β ρ : Type} (P : β → Bool) (rt : ρ) (rf : ρ) (xs : List β) : walk (fun x (_ : Unit) => if P x then .inr rt else .inl ()) (fun _ => rf) xs () = if xs.any P then rt else rf := by
  induction xs with
  | nil => rfl
  | cons x xs ih =>
    simp only [walk, List.any_cons]
    by_cases hx : P x = true
    · simp [hx]
    · simp [hx, ih]

/- equality of lists -/
theorem eq_of_places {α : Type} {xs ys : List α} (z : α) (hl : xs.length = ys.length) (h : ∀ j, j < xs.length → xs.getD j z = ys.getD j z) : xs = ys := by
  apply List.ext_getElem hl
  intro i h1 h2
  have := h i h1
  simpa [h1, h2] using this
theorem ne_of_place {α : Type} {xs ys : List α} (z : α) {j : Nat} (h : xs.getD j z ≠ ys.getD j z) : xs ≠ ys := fun e => h (by rw [e])

theorem scan_rule {σ ρ : Type} {step : σ → Option (σ ⊕ ρ)} (st : Nat → σ) (N : Nat) (P : Nat → Bool) (rt : Nat → ρ) (rf : ρ)
    (h : ∀ i, i < N → step (st i) = if P i then some (.inr (rt i)) else some (.inl (st (i + 1)))) (hN : step (st N) = some (.inr rf)) :
    ∀ (m i n : Nat), N - i = m → i ≤ N → m < n → (∃ k, i ≤ k ∧ k < N ∧ P k = true ∧ (∀ j, i ≤ j → j < k → P j = false) ∧ iterO step n (st i) = some (rt k)) ∨ ((∀ j, i ≤ j → j < N → P j = false) ∧ iterO step n (st i) = some rf) := by
  intro m
  induction m with
  | zero =>
    intro i n hk hi hn
    obtain ⟨n, rfl⟩ : ∃ k, n = k + 1 := ⟨n - 1, by omega⟩
    have e : i = N := by omega
    subst e
    exact .inr ⟨fun j h1 h2 => by omega, by rw [iterO, hN]⟩
  | succ m ih =>
    intro i n hk hi hn
    obtain ⟨n, rfl⟩ : ∃ k, n = k + 1 := ⟨n - 1, by omega⟩
    have hi' : i < N := by omega
    cases hP : P i
    · have e : iterO step (n + 1) (st i) = iterO step n (st (i + 1)) := by rw [iterO, h i hi', hP]; rfl
      rw [e]
      rcases ih (i + 1) n (by omega) (by omega) (by omega) with ⟨k, h1, h2, h3, h4, h5⟩ | ⟨h1, h2⟩
      · refine .inl ⟨k, by omega, h2, h3, fun j a1 a2 => ?_, h5⟩
        by_cases ej : j = i
        · subst ej; exact hP
        · exact h4 j (by omega) a2
      · refine .inr ⟨fun j a1 a2 => ?_, h2⟩
        by_cases ej : j = i
        · subst ej; exact hP
        · exact h1 j (by omega) a2
    · exact .inl ⟨i, Nat.le_refl _, hi', hP, fun j a1 a2 => by omega, by rw [iterO, h i hi', hP]; rfl⟩

theorem scanL {σ ρ : Type} {step : σ → Option (σ ⊕ ρ)} (st : Nat → σ) (N : Nat) (P : Nat → Bool) (rt : Nat → ρ) (rf : ρ) (hs : N < 4294967296)
    (h : ∀ i, i < N → step (st i) = if P i then some (.inr (rt i)) else some (.inl (st (i + 1)))) (hN : step (st N) = some (.inr rf)) :
    (∃ k, k < N ∧ P k = true ∧ (∀ j, j < k → P j = false) ∧ iterL step many (st 0) = some (rt k)) ∨ ((∀ j, j < N → P j = false) ∧ iterL step many (st 0) = some rf) := by
  have hm : 4294967296 < many := by simp only [many]; omega
  rw [iterL_eq]
  rcases scan_rule st N P rt rf h hN N 0 many rfl (by omega) (by omega) with ⟨k, h1, h2, h3, h4, h5⟩ | ⟨h1, h2⟩
  · exact .inl ⟨k, h2, h3, fun j a => h4 j (by omega) a, h5⟩
  · exact .inr ⟨fun j a => h1 j (by omega) a, h2⟩

end Go.Pev.Pl
end
