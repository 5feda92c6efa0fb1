/- A part of the proofs of this seat: G12M1 G12M2. -/
import Derived.Test.YtacapnnkndaonaaP4379ba90fe
set_option linter.unusedVariables false
set_option linter.unusedSimpArgs false
set_option linter.unusedSectionVars false
section
/- The models of functions: what they compute, as plain functions of leaves; each twice: locked, and to compute with (C). Printed by a program. -/
namespace Go.Pev
set_option maxRecDepth 100000
noncomputable section
attribute [local irreducible] fitsR fitsIR idxR sublR iltR ileR ieqR quoR remR shlR shrR cloneR iterO many IntKind.wrap dlen dset dget dapp dtake dcut drep dnat dclear imin imax lookupM storeM
-- archipelago/archipelagoref12.Great
abbrev great12_i : Items := [(.tmp 0, .dat (.prod (.int .i64) (.prod (.slice (.int .u32)) (.prod (.slice .bool) .unit))))]
abbrev great12_o : Items := [(.tmp 0, .dat .bool)]
abbrev great12_r : List RS := [.one]
def great12_d : ((Int × (List Int) × (List Bool) × Unit) × Unit) → Option ((Bool × Unit)) := fun (a0, _) =>
  match (ilt (64 : Int) (dlen a0.2.1)) with
  | true => some (true, ())
  | false => some ((ilt (64 : Int) (dlen a0.2.2.1)), ())
def great12 (v : ((Int × (List Int) × (List Bool) × Unit) × Unit)) : Option ((Bool × Unit)) := lock (great12_d v)
theorem great12_eq (v : ((Int × (List Int) × (List Bool) × Unit) × Unit)) : great12 v = great12_d v := lock_eq _
def great12_dC : ((Int × (List Int) × (List Bool) × Unit) × Unit) → Option ((Bool × Unit)) := fun (a0, _) =>
  match (iltR (64 : Int) (dlen a0.2.1)) with
  | true => some (true, ())
  | false => some ((iltR (64 : Int) (dlen a0.2.2.1)), ())

theorem great12_d_ceq : great12_d = great12_dC := by
  funext v
  simp only [great12_d, great12_dC, ilt_eqR] <;> rfl

def great12C (v : denL (leaves great12_i)) : Option (denL (leaves great12_o)) := great12_dC v

theorem great12_ceq : great12 = great12C := by
  funext v
  rw [great12_eq, great12_d_ceq]; rfl


-- archipelago/table.sized
abbrev sized_i : Items := [(.tmp 0, .dat (.int .i64))]
abbrev sized_o : Items := [(.tmp 0, .dat .bool)]
abbrev sized_r : List RS := [.one]
def sized_d : (Int × Unit) → Option ((Bool × Unit)) := fun (a0, _) =>
  match (ile (1 : Int) a0) with
  | true => some ((ile a0 (10 : Int)), ())
  | false => some (false, ())
def sized (v : (Int × Unit)) : Option ((Bool × Unit)) := lock (sized_d v)
theorem sized_eq (v : (Int × Unit)) : sized v = sized_d v := lock_eq _
def sized_dC : (Int × Unit) → Option ((Bool × Unit)) := fun (a0, _) =>
  match (ileR (1 : Int) a0) with
  | true => some ((ileR a0 (10 : Int)), ())
  | false => some (false, ())

theorem sized_d_ceq : sized_d = sized_dC := by
  funext v
  simp only [sized_d, sized_dC, ile_eqR] <;> rfl

def sizedC (v : denL (leaves sized_i)) : Option (denL (leaves sized_o)) := sized_dC v

theorem sized_ceq : sized = sizedC := by
  funext v
  rw [sized_eq, sized_d_ceq]; rfl


-- archipelago/table.Home
abbrev home_i : Items := [(.tmp 0, .dat (.int .i64)), (.tmp 1, .dat (.int .u32))]
abbrev home_o : Items := [(.tmp 0, .dat (.int .i64))]
abbrev home_r : List RS := [.one]
def home_d : (Int × Int × Unit) → Option ((Int × Unit)) := fun (a0, a1, _) =>
  match sized (a0, ()) with
  | none => none
  | some (y0, _) => match (!y0) with
    | true => some ((-1 : Int), ())
    | false => match shr? .u32 (IntKind.wrap .u32 (a1 * (2654435761 : Int))) (IntKind.wrap .u64 (IntKind.wrap .i64 ((32 : Int) - a0))) with
      | none => none
      | some x1 => some ((IntKind.wrap .i64 x1), ())
def home (v : (Int × Int × Unit)) : Option ((Int × Unit)) := lock (home_d v)
theorem home_eq (v : (Int × Int × Unit)) : home v = home_d v := lock_eq _
def home_dC : (Int × Int × Unit) → Option ((Int × Unit)) := fun (a0, a1, _) =>
  match sizedC (a0, ()) with
  | none => none
  | some (y0, _) => match (!y0) with
    | true => some ((-1 : Int), ())
    | false => match shrR .u32 (IntKind.wrap .u32 (a1 * (2654435761 : Int))) (IntKind.wrap .u64 (IntKind.wrap .i64 ((32 : Int) - a0))) with
      | none => none
      | some x1 => some ((IntKind.wrap .i64 x1), ())

theorem home_d_ceq : home_d = home_dC := by
  funext v
  simp only [home_d, home_dC, shr_eq, sized_ceq] <;> rfl

def homeC (v : denL (leaves home_i)) : Option (denL (leaves home_o)) := home_dC v

theorem home_ceq : home = homeC := by
  funext v
  rw [home_eq, home_d_ceq]; rfl


-- archipelago/archipelagoref12.Home
abbrev home12_i : Items := [(.tmp 0, .dat (.int .i64)), (.tmp 1, .dat (.int .u32))]
abbrev home12_o : Items := [(.tmp 0, .dat (.int .i64))]
abbrev home12_r : List RS := [.one]
abbrev home12_i0 : Items := [(.tmp 0, .dat (.int .i64)), (.tmp 5, .dat (.int .u64)), (.tmp 6, .dat (.int .i64))]
abbrev home12_o0 : Outs := [(.exit 0, [(.tmp 5, .dat (.int .u64))])]
def home12_s0 : (Int × Int × Int × Unit) → Option ((Int × Int × Int × Unit) ⊕ (Int × Unit) ⊕ Unit) := fun (a0, a1, a2, _) =>
  match (ilt a2 (IntKind.wrap .i64 ((32 : Int) - a0))) with
  | true => match quo? .u64 a1 (2 : Int) with
    | none => none
    | some x0 => some (.inl (a0, x0, (IntKind.wrap .i64 (a2 + (1 : Int))), ()))
  | false => some (.inr (.inl (a1, ())))
def home12_d : (Int × Int × Unit) → Option ((Int × Unit)) := fun (a0, a1, _) =>
  match (ilt a0 (1 : Int)) with
  | true => some ((-1 : Int), ())
  | false => match (ilt (10 : Int) a0) with
    | true => some ((-1 : Int), ())
    | false => match rem? (IntKind.wrap .u64 ((IntKind.wrap .u64 a1) * (2654435761 : Int))) (4294967296 : Int) with
      | none => none
      | some x0 => match iterL home12_s0 many (a0, x0, (0 : Int), ()) with
        | none => none
        | some r => match r with
          | .inl (o1, _) => some ((IntKind.wrap .i64 o1), ())
          | .inr _ => none
def home12 (v : (Int × Int × Unit)) : Option ((Int × Unit)) := lock (home12_d v)
theorem home12_eq (v : (Int × Int × Unit)) : home12 v = home12_d v := lock_eq _
def home12_s0C : (Int × Int × Int × Unit) → Option ((Int × Int × Int × Unit) ⊕ (Int × Unit) ⊕ Unit) := fun (a0, a1, a2, _) =>
  match (iltR a2 (IntKind.wrap .i64 ((32 : Int) - a0))) with
  | true => match quoR .u64 a1 (2 : Int) with
    | none => none
    | some x0 => some (.inl (a0, x0, (IntKind.wrap .i64 (a2 + (1 : Int))), ()))
  | false => some (.inr (.inl (a1, ())))

theorem home12_s0_ceq : home12_s0 = home12_s0C := by
  funext v
  simp only [home12_s0, home12_s0C, quo_eq, ilt_eqR] <;> rfl

def home12_dC : (Int × Int × Unit) → Option ((Int × Unit)) := fun (a0, a1, _) =>
  match (iltR a0 (1 : Int)) with
  | true => some ((-1 : Int), ())
  | false => match (iltR (10 : Int) a0) with
    | true => some ((-1 : Int), ())
    | false => match remR (IntKind.wrap .u64 ((IntKind.wrap .u64 a1) * (2654435761 : Int))) (4294967296 : Int) with
      | none => none
      | some x0 => match iterO home12_s0C many (a0, x0, (0 : Int), ()) with
        | none => none
        | some r => match r with
          | .inl (o1, _) => some ((IntKind.wrap .i64 o1), ())
          | .inr _ => none

theorem home12_d_ceq : home12_d = home12_dC := by
  funext v
  simp only [home12_d, home12_dC, rem_eq, iterL_eq, ilt_eqR, home12_s0_ceq] <;> rfl

def home12C (v : denL (leaves home12_i)) : Option (denL (leaves home12_o)) := home12_dC v

theorem home12_ceq : home12 = home12C := by
  funext v
  rw [home12_eq, home12_d_ceq]; rfl


-- archipelago/table.probe
abbrev probe_i : Items := [(.tmp 0, .dat (.prod (.int .i64) (.prod (.slice (.int .u32)) (.prod (.slice .bool) .unit)))), (.tmp 1, .dat (.int .u32))]
abbrev probe_o : Items := [(.tmp 0, .dat (.int .i64)), (.tmp 1, .dat (.int .i64))]
abbrev probe_r : List RS := [.one, .one]
abbrev probe_i0 : Items := [(.tmp 1, .dat (.int .u32)), (.tmp 2, .box 3), (.cell 0 0, .dat (.int .i64)), (.cell 0 1, .dat (.slice (.int .u32))), (.cell 0 2, .dat (.slice .bool)), (.tmp 4, .dat (.int .i64)), (.tmp 5, .dat (.int .i64)), (.tmp 6, .dat (.int .i64))]
abbrev probe_o0 : Outs := [(.exit 0, [(.tmp 4, .dat (.int .i64)), (.tmp 5, .dat (.int .i64))])]
def probe_s0 : (Int × Int × List Int × List Bool × Int × Int × Int × Unit) → Option ((Int × Int × List Int × List Bool × Int × Int × Int × Unit) ⊕ (Int × Int × Unit) ⊕ Unit) := fun (a0, a1, a2, a3, a4, a5, a6, _) =>
  match idx a3 a4 with
  | none => none
  | some x0 => match x0 with
    | true => match idx a2 a4 with
      | none => none
      | some x1 => match (!(ieq x1 a0)) with
        | true => some (.inl (a0, a1, a2, a3, (IntKind.wrap .i64 ((BitVec.ofInt (IntKind.bits .i64) (IntKind.wrap .i64 (a4 + (1 : Int))) &&& BitVec.ofInt (IntKind.bits .i64) a6).toNat)), (IntKind.wrap .i64 (a5 + (1 : Int))), a6, ()))
        | false => some (.inr (.inl (a4, a5, ())))
    | false => some (.inr (.inl (a4, a5, ())))
def probe_d : ((Int × (List Int) × (List Bool) × Unit) × Int × Unit) → Option ((Int × Int × Unit)) := fun (a0, a1, _) =>
  match home (a0.1, a1, ()) with
  | none => none
  | some (y0, _) => match iterL probe_s0 many (a1, a0.1, a0.2.1, a0.2.2.1, y0, (1 : Int), (IntKind.wrap .i64 ((dlen a0.2.1) - (1 : Int))), ()) with
    | none => none
    | some r => match r with
      | .inl (o1, o2, _) => some (o1, o2, ())
      | .inr _ => none
def probe (v : ((Int × (List Int) × (List Bool) × Unit) × Int × Unit)) : Option ((Int × Int × Unit)) := lock (probe_d v)
theorem probe_eq (v : ((Int × (List Int) × (List Bool) × Unit) × Int × Unit)) : probe v = probe_d v := lock_eq _
def probe_s0C : (Int × Int × List Int × List Bool × Int × Int × Int × Unit) → Option ((Int × Int × List Int × List Bool × Int × Int × Int × Unit) ⊕ (Int × Int × Unit) ⊕ Unit) := fun (a0, a1, a2, a3, a4, a5, a6, _) =>
  match idxR a3 a4 with
  | none => none
  | some x0 => match x0 with
    | true => match idxR a2 a4 with
      | none => none
      | some x1 => match (!(ieqR x1 a0)) with
        | true => some (.inl (a0, a1, a2, a3, (IntKind.wrap .i64 ((BitVec.ofInt (IntKind.bits .i64) (IntKind.wrap .i64 (a4 + (1 : Int))) &&& BitVec.ofInt (IntKind.bits .i64) a6).toNat)), (IntKind.wrap .i64 (a5 + (1 : Int))), a6, ()))
        | false => some (.inr (.inl (a4, a5, ())))
    | false => some (.inr (.inl (a4, a5, ())))

theorem probe_s0_ceq : probe_s0 = probe_s0C := by
  funext v
  simp only [probe_s0, probe_s0C, idx_eq, ieq_eqR] <;> rfl

def probe_dC : ((Int × (List Int) × (List Bool) × Unit) × Int × Unit) → Option ((Int × Int × Unit)) := fun (a0, a1, _) =>
  match homeC (a0.1, a1, ()) with
  | none => none
  | some (y0, _) => match iterO probe_s0C many (a1, a0.1, a0.2.1, a0.2.2.1, y0, (1 : Int), (IntKind.wrap .i64 ((dlen a0.2.1) - (1 : Int))), ()) with
    | none => none
    | some r => match r with
      | .inl (o1, o2, _) => some (o1, o2, ())
      | .inr _ => none

theorem probe_d_ceq : probe_d = probe_dC := by
  funext v
  simp only [probe_d, probe_dC, iterL_eq, home_ceq, probe_s0_ceq] <;> rfl

def probeC (v : denL (leaves probe_i)) : Option (denL (leaves probe_o)) := probe_dC v

theorem probe_ceq : probe = probeC := by
  funext v
  rw [probe_eq, probe_d_ceq]; rfl


-- slices.Compact[[]uint32,uint32]
abbrev compactW_i : Items := [(.tmp 0, .own 34 (.int .u32))]
abbrev compactW_o : Items := [(.obj 0, .own 34 (.int .u32)), (.tmp 0, .win' 0)]
abbrev compactW_r : List RS := [.one]
abbrev compactW_i1 : Items := [(.obj 0, .own 34 (.int .u32)), (.tmp 0, .own' 0), (.tmp 3, .dat (.int .i64)), (.tmp 4, .sub' 0), (.tmp 5, .dat (.int .i64))]
abbrev compactW_o1 : Outs := [(.exit 2, [(.obj 0, .own 34 (.int .u32)), (.tmp 0, .own' 0), (.tmp 3, .dat (.int .i64))])]
def compactW_s1 : (List Int × Int × Int × Int × Int × Unit) → Option ((List Int × Int × Int × Int × Int × Unit) ⊕ (List Int × Int × Unit) ⊕ Unit) := fun (a0, a1, a2, a3, a4, _) =>
  match (ilt a4 (((dnat a3) : Nat) : Int)) with
  | true => match idx (dcut (dnat a2) (dnat a3) a0) a4 with
    | none => none
    | some x0 => match idx (dcut (dnat a2) (dnat a3) a0) (IntKind.wrap .i64 (a4 - (1 : Int))) with
      | none => none
      | some x1 => match (!(ieq (dget a0 ((dnat a2) + (dnat a4)) (0 : Int)) (dget a0 ((dnat a2) + (dnat (IntKind.wrap .i64 (a4 - (1 : Int))))) (0 : Int)))) with
        | true => match idx (dcut (dnat a2) (dnat a3) a0) a4 with
          | none => none
          | some x2 => match idx a0 a1 with
            | none => none
            | some x3 => some (.inl ((dset a0 (dnat a1) (dget a0 ((dnat a2) + (dnat a4)) (0 : Int))), (IntKind.wrap .i64 (a1 + (1 : Int))), (((dnat a2) : Nat) : Int), (((dnat a3) : Nat) : Int), (IntKind.wrap .i64 (a4 + (1 : Int))), ()))
        | false => some (.inl (a0, a1, (((dnat a2) : Nat) : Int), (((dnat a3) : Nat) : Int), (IntKind.wrap .i64 (a4 + (1 : Int))), ()))
  | false => some (.inr (.inl (a0, a1, ())))
abbrev compactW_i0 : Items := [(.obj 0, .own 34 (.int .u32)), (.tmp 0, .own' 0), (.tmp 3, .dat (.int .i64))]
abbrev compactW_o0 : Outs := [(.ret, [(.obj 0, .own 34 (.int .u32)), (.tmp 2, .win' 0)]), (.exit 0, [(.obj 0, .own 34 (.int .u32)), (.tmp 0, .own' 0)])]
def compactW_s0 : (List Int × Int × Unit) → Option ((List Int × Int × Unit) ⊕ (List Int × Int × Unit) ⊕ (List Int × Unit) ⊕ Unit) := fun (a0, a1, _) =>
  match (ilt a1 (dlen a0)) with
  | true => match idx a0 a1 with
    | none => none
    | some x0 => match idx a0 (IntKind.wrap .i64 (a1 - (1 : Int))) with
      | none => none
      | some x1 => match (ieq (dget a0 (dnat a1) (0 : Int)) (dget a0 (dnat (IntKind.wrap .i64 (a1 - (1 : Int)))) (0 : Int))) with
        | true => match subl a0 a1 (dlen a0) with
          | none => none
          | some x2 => match iterL compactW_s1 many (a0, a1, (((dnat a1) : Nat) : Int), (((dnat (dlen x2)) : Nat) : Int), (1 : Int), ()) with
            | none => none
            | some r => match r with
              | .inl (o3, o4, _) => match subl o3 o4 (dlen o3) with
                | none => none
                | some x5 => match subl (dclear (dnat o4) (dnat (dlen x5)) (0 : Int) o3) (0 : Int) o4 with
                  | none => none
                  | some x6 => some (.inr (.inl ((dclear (dnat o4) (dnat (dlen x5)) (0 : Int) o3), (((dnat (dlen x6)) : Nat) : Int), ())))
              | .inr _ => none
        | false => some (.inl (a0, (IntKind.wrap .i64 (a1 + (1 : Int))), ()))
  | false => some (.inr (.inr (.inl (a0, ()))))
def compactW_d : (List Int × Unit) → Option ((List Int × Int × Unit)) := fun (a0, _) =>
  match (ilt (dlen a0) (2 : Int)) with
  | true => some (a0, (dlen a0), ())
  | false => match iterL compactW_s0 many (a0, (1 : Int), ()) with
    | none => none
    | some r => match r with
      | .inl (o0, o1, _) => some (o0, (((dnat o1) : Nat) : Int), ())
      | .inr r => match r with
        | .inl (o2, _) => some (o2, (dlen o2), ())
        | .inr _ => none
def compactW (v : (List Int × Unit)) : Option ((List Int × Int × Unit)) := lock (compactW_d v)
theorem compactW_eq (v : (List Int × Unit)) : compactW v = compactW_d v := lock_eq _
def compactW_s1C : (List Int × Int × Int × Int × Int × Unit) → Option ((List Int × Int × Int × Int × Int × Unit) ⊕ (List Int × Int × Unit) ⊕ Unit) := fun (a0, a1, a2, a3, a4, _) =>
  match (iltR a4 (((dnat a3) : Nat) : Int)) with
  | true => match idxR (dcut (dnat a2) (dnat a3) a0) a4 with
    | none => none
    | some x0 => match idxR (dcut (dnat a2) (dnat a3) a0) (IntKind.wrap .i64 (a4 - (1 : Int))) with
      | none => none
      | some x1 => match (!(ieqR (dget a0 ((dnat a2) + (dnat a4)) (0 : Int)) (dget a0 ((dnat a2) + (dnat (IntKind.wrap .i64 (a4 - (1 : Int))))) (0 : Int)))) with
        | true => match idxR (dcut (dnat a2) (dnat a3) a0) a4 with
          | none => none
          | some x2 => match idxR a0 a1 with
            | none => none
            | some x3 => some (.inl ((dset a0 (dnat a1) (dget a0 ((dnat a2) + (dnat a4)) (0 : Int))), (IntKind.wrap .i64 (a1 + (1 : Int))), (((dnat a2) : Nat) : Int), (((dnat a3) : Nat) : Int), (IntKind.wrap .i64 (a4 + (1 : Int))), ()))
        | false => some (.inl (a0, a1, (((dnat a2) : Nat) : Int), (((dnat a3) : Nat) : Int), (IntKind.wrap .i64 (a4 + (1 : Int))), ()))
  | false => some (.inr (.inl (a0, a1, ())))

theorem compactW_s1_ceq : compactW_s1 = compactW_s1C := by
  funext v
  simp only [compactW_s1, compactW_s1C, idx_eq, ilt_eqR, ieq_eqR] <;> rfl

def compactW_s0C : (List Int × Int × Unit) → Option ((List Int × Int × Unit) ⊕ (List Int × Int × Unit) ⊕ (List Int × Unit) ⊕ Unit) := fun (a0, a1, _) =>
  match (iltR a1 (dlen a0)) with
  | true => match idxR a0 a1 with
    | none => none
    | some x0 => match idxR a0 (IntKind.wrap .i64 (a1 - (1 : Int))) with
      | none => none
      | some x1 => match (ieqR (dget a0 (dnat a1) (0 : Int)) (dget a0 (dnat (IntKind.wrap .i64 (a1 - (1 : Int)))) (0 : Int))) with
        | true => match sublR a0 a1 (dlen a0) with
          | none => none
          | some x2 => match iterO compactW_s1C many (a0, a1, (((dnat a1) : Nat) : Int), (((dnat (dlen x2)) : Nat) : Int), (1 : Int), ()) with
            | none => none
            | some r => match r with
              | .inl (o3, o4, _) => match sublR o3 o4 (dlen o3) with
                | none => none
                | some x5 => match sublR (dclear (dnat o4) (dnat (dlen x5)) (0 : Int) o3) (0 : Int) o4 with
                  | none => none
                  | some x6 => some (.inr (.inl ((dclear (dnat o4) (dnat (dlen x5)) (0 : Int) o3), (((dnat (dlen x6)) : Nat) : Int), ())))
              | .inr _ => none
        | false => some (.inl (a0, (IntKind.wrap .i64 (a1 + (1 : Int))), ()))
  | false => some (.inr (.inr (.inl (a0, ()))))

theorem compactW_s0_ceq : compactW_s0 = compactW_s0C := by
  funext v
  simp only [compactW_s0, compactW_s0C, idx_eq, subl_eq, iterL_eq, ilt_eqR, ieq_eqR, compactW_s1_ceq] <;> rfl

def compactW_dC : (List Int × Unit) → Option ((List Int × Int × Unit)) := fun (a0, _) =>
  match (iltR (dlen a0) (2 : Int)) with
  | true => some (a0, (dlen a0), ())
  | false => match iterO compactW_s0C many (a0, (1 : Int), ()) with
    | none => none
    | some r => match r with
      | .inl (o0, o1, _) => some (o0, (((dnat o1) : Nat) : Int), ())
      | .inr r => match r with
        | .inl (o2, _) => some (o2, (dlen o2), ())
        | .inr _ => none

theorem compactW_d_ceq : compactW_d = compactW_dC := by
  funext v
  simp only [compactW_d, compactW_dC, iterL_eq, ilt_eqR, compactW_s0_ceq] <;> rfl

def compactWC (v : denL (leaves compactW_i)) : Option (denL (leaves compactW_o)) := compactW_dC v

theorem compactW_ceq : compactW = compactWC := by
  funext v
  rw [compactW_eq, compactW_d_ceq]; rfl


-- slices.Equal[[]uint32,uint32]
abbrev equalW_i : Items := [(.tmp 0, .dat (.slice (.int .u32))), (.tmp 1, .dat (.slice (.int .u32)))]
abbrev equalW_o : Items := [(.tmp 0, .dat .bool)]
abbrev equalW_r : List RS := [.one]
abbrev equalW_i0 : Items := [(.tmp 0, .dat (.slice (.int .u32))), (.tmp 1, .dat (.slice (.int .u32))), (.tmp 12, .dat (.int .i64)), (.tmp 13, .dat (.int .i64))]
abbrev equalW_o0 : Outs := [(.ret, [(.tmp 4, .dat .bool)]), (.exit 0, [])]
def equalW_s0 : (List Int × List Int × Int × Int × Unit) → Option ((List Int × List Int × Int × Int × Unit) ⊕ (Bool × Unit) ⊕ (Unit) ⊕ Unit) := fun (a0, a1, a2, a3, _) =>
  match (ilt a3 a2) with
  | true => match idx a0 a3 with
    | none => none
    | some x0 => match idx a1 a3 with
      | none => none
      | some x1 => match (!(ieq x0 x1)) with
        | true => some (.inr (.inl (false, ())))
        | false => some (.inl (a0, a1, a2, (IntKind.wrap .i64 (a3 + (1 : Int))), ()))
  | false => some (.inr (.inr (.inl ())))
def equalW_d : (List Int × List Int × Unit) → Option ((Bool × Unit)) := fun (a0, a1, _) =>
  match (!(ieq (dlen a0) (dlen a1))) with
  | true => some (false, ())
  | false => match iterL equalW_s0 many (a0, a1, (dlen a0), (0 : Int), ()) with
    | none => none
    | some r => match r with
      | .inl (o0, _) => some (o0, ())
      | .inr r => match r with
        | .inl _ => some (true, ())
        | .inr _ => none
def equalW (v : (List Int × List Int × Unit)) : Option ((Bool × Unit)) := lock (equalW_d v)
theorem equalW_eq (v : (List Int × List Int × Unit)) : equalW v = equalW_d v := lock_eq _
def equalW_s0C : (List Int × List Int × Int × Int × Unit) → Option ((List Int × List Int × Int × Int × Unit) ⊕ (Bool × Unit) ⊕ (Unit) ⊕ Unit) := fun (a0, a1, a2, a3, _) =>
  match (iltR a3 a2) with
  | true => match idxR a0 a3 with
    | none => none
    | some x0 => match idxR a1 a3 with
      | none => none
      | some x1 => match (!(ieqR x0 x1)) with
        | true => some (.inr (.inl (false, ())))
        | false => some (.inl (a0, a1, a2, (IntKind.wrap .i64 (a3 + (1 : Int))), ()))
  | false => some (.inr (.inr (.inl ())))

theorem equalW_s0_ceq : equalW_s0 = equalW_s0C := by
  funext v
  simp only [equalW_s0, equalW_s0C, idx_eq, ilt_eqR, ieq_eqR] <;> rfl

def equalW_dC : (List Int × List Int × Unit) → Option ((Bool × Unit)) := fun (a0, a1, _) =>
  match (!(ieqR (dlen a0) (dlen a1))) with
  | true => some (false, ())
  | false => match iterO equalW_s0C many (a0, a1, (dlen a0), (0 : Int), ()) with
    | none => none
    | some r => match r with
      | .inl (o0, _) => some (o0, ())
      | .inr r => match r with
        | .inl _ => some (true, ())
        | .inr _ => none

theorem equalW_d_ceq : equalW_d = equalW_dC := by
  funext v
  simp only [equalW_d, equalW_dC, iterL_eq, ieq_eqR, equalW_s0_ceq] <;> rfl

def equalWC (v : denL (leaves equalW_i)) : Option (denL (leaves equalW_o)) := equalW_dC v

theorem equalW_ceq : equalW = equalWC := by
  funext v
  rw [equalW_eq, equalW_d_ceq]; rfl


-- slices.Equal[[]bool,bool]
abbrev equalB_i : Items := [(.tmp 0, .dat (.slice .bool)), (.tmp 1, .dat (.slice .bool))]
abbrev equalB_o : Items := [(.tmp 0, .dat .bool)]
abbrev equalB_r : List RS := [.one]
abbrev equalB_i0 : Items := [(.tmp 0, .dat (.slice .bool)), (.tmp 1, .dat (.slice .bool)), (.tmp 12, .dat (.int .i64)), (.tmp 13, .dat (.int .i64))]
abbrev equalB_o0 : Outs := [(.ret, [(.tmp 4, .dat .bool)]), (.exit 0, [])]
def equalB_s0 : (List Bool × List Bool × Int × Int × Unit) → Option ((List Bool × List Bool × Int × Int × Unit) ⊕ (Bool × Unit) ⊕ (Unit) ⊕ Unit) := fun (a0, a1, a2, a3, _) =>
  match (ilt a3 a2) with
  | true => match idx a0 a3 with
    | none => none
    | some x0 => match idx a1 a3 with
      | none => none
      | some x1 => match (!(x0 == x1)) with
        | true => some (.inr (.inl (false, ())))
        | false => some (.inl (a0, a1, a2, (IntKind.wrap .i64 (a3 + (1 : Int))), ()))
  | false => some (.inr (.inr (.inl ())))
def equalB_d : (List Bool × List Bool × Unit) → Option ((Bool × Unit)) := fun (a0, a1, _) =>
  match (!(ieq (dlen a0) (dlen a1))) with
  | true => some (false, ())
  | false => match iterL equalB_s0 many (a0, a1, (dlen a0), (0 : Int), ()) with
    | none => none
    | some r => match r with
      | .inl (o0, _) => some (o0, ())
      | .inr r => match r with
        | .inl _ => some (true, ())
        | .inr _ => none
def equalB (v : (List Bool × List Bool × Unit)) : Option ((Bool × Unit)) := lock (equalB_d v)
theorem equalB_eq (v : (List Bool × List Bool × Unit)) : equalB v = equalB_d v := lock_eq _
def equalB_s0C : (List Bool × List Bool × Int × Int × Unit) → Option ((List Bool × List Bool × Int × Int × Unit) ⊕ (Bool × Unit) ⊕ (Unit) ⊕ Unit) := fun (a0, a1, a2, a3, _) =>
  match (iltR a3 a2) with
  | true => match idxR a0 a3 with
    | none => none
    | some x0 => match idxR a1 a3 with
      | none => none
      | some x1 => match (!(x0 == x1)) with
        | true => some (.inr (.inl (false, ())))
        | false => some (.inl (a0, a1, a2, (IntKind.wrap .i64 (a3 + (1 : Int))), ()))
  | false => some (.inr (.inr (.inl ())))

theorem equalB_s0_ceq : equalB_s0 = equalB_s0C := by
  funext v
  simp only [equalB_s0, equalB_s0C, idx_eq, ilt_eqR] <;> rfl

def equalB_dC : (List Bool × List Bool × Unit) → Option ((Bool × Unit)) := fun (a0, a1, _) =>
  match (!(ieqR (dlen a0) (dlen a1))) with
  | true => some (false, ())
  | false => match iterO equalB_s0C many (a0, a1, (dlen a0), (0 : Int), ()) with
    | none => none
    | some r => match r with
      | .inl (o0, _) => some (o0, ())
      | .inr r => match r with
        | .inl _ => some (true, ())
        | .inr _ => none

theorem equalB_d_ceq : equalB_d = equalB_dC := by
  funext v
  simp only [equalB_d, equalB_dC, iterL_eq, ieq_eqR, equalB_s0_ceq] <;> rfl

def equalBC (v : denL (leaves equalB_i)) : Option (denL (leaves equalB_o)) := equalB_dC v

theorem equalB_ceq : equalB = equalBC := by
  funext v
  rw [equalB_eq, equalB_d_ceq]; rfl


-- slices.Index[[]uint32,uint32]
abbrev indexW_i : Items := [(.tmp 0, .dat (.slice (.int .u32))), (.tmp 1, .dat (.int .u32))]
abbrev indexW_o : Items := [(.tmp 0, .dat (.int .i64))]
abbrev indexW_r : List RS := [.one]
abbrev indexW_i0 : Items := [(.tmp 0, .dat (.slice (.int .u32))), (.tmp 1, .dat (.int .u32)), (.tmp 7, .dat (.int .i64)), (.tmp 8, .dat (.int .i64))]
abbrev indexW_o0 : Outs := [(.ret, [(.tmp 4, .dat (.int .i64))]), (.exit 0, [])]
def indexW_s0 : (List Int × Int × Int × Int × Unit) → Option ((List Int × Int × Int × Int × Unit) ⊕ (Int × Unit) ⊕ (Unit) ⊕ Unit) := fun (a0, a1, a2, a3, _) =>
  match (ilt a3 a2) with
  | true => match idx a0 a3 with
    | none => none
    | some x0 => match (ieq a1 x0) with
      | true => some (.inr (.inl (a3, ())))
      | false => some (.inl (a0, a1, a2, (IntKind.wrap .i64 (a3 + (1 : Int))), ()))
  | false => some (.inr (.inr (.inl ())))
def indexW_d : (List Int × Int × Unit) → Option ((Int × Unit)) := fun (a0, a1, _) =>
  match iterL indexW_s0 many (a0, a1, (dlen a0), (0 : Int), ()) with
  | none => none
  | some r => match r with
    | .inl (o0, _) => some (o0, ())
    | .inr r => match r with
      | .inl _ => some ((-1 : Int), ())
      | .inr _ => none
def indexW (v : (List Int × Int × Unit)) : Option ((Int × Unit)) := lock (indexW_d v)
theorem indexW_eq (v : (List Int × Int × Unit)) : indexW v = indexW_d v := lock_eq _
def indexW_s0C : (List Int × Int × Int × Int × Unit) → Option ((List Int × Int × Int × Int × Unit) ⊕ (Int × Unit) ⊕ (Unit) ⊕ Unit) := fun (a0, a1, a2, a3, _) =>
  match (iltR a3 a2) with
  | true => match idxR a0 a3 with
    | none => none
    | some x0 => match (ieqR a1 x0) with
      | true => some (.inr (.inl (a3, ())))
      | false => some (.inl (a0, a1, a2, (IntKind.wrap .i64 (a3 + (1 : Int))), ()))
  | false => some (.inr (.inr (.inl ())))

theorem indexW_s0_ceq : indexW_s0 = indexW_s0C := by
  funext v
  simp only [indexW_s0, indexW_s0C, idx_eq, ilt_eqR, ieq_eqR] <;> rfl

def indexW_dC : (List Int × Int × Unit) → Option ((Int × Unit)) := fun (a0, a1, _) =>
  match iterO indexW_s0C many (a0, a1, (dlen a0), (0 : Int), ()) with
  | none => none
  | some r => match r with
    | .inl (o0, _) => some (o0, ())
    | .inr r => match r with
      | .inl _ => some ((-1 : Int), ())
      | .inr _ => none

theorem indexW_d_ceq : indexW_d = indexW_dC := by
  funext v
  simp only [indexW_d, indexW_dC, iterL_eq, indexW_s0_ceq] <;> rfl

def indexWC (v : denL (leaves indexW_i)) : Option (denL (leaves indexW_o)) := indexW_dC v

theorem indexW_ceq : indexW = indexWC := by
  funext v
  rw [indexW_eq, indexW_d_ceq]; rfl


-- slices.Contains[[]uint32,uint32]
abbrev containsW_i : Items := [(.tmp 0, .dat (.slice (.int .u32))), (.tmp 1, .dat (.int .u32))]
abbrev containsW_o : Items := [(.tmp 0, .dat .bool)]
abbrev containsW_r : List RS := [.one]
def containsW_d : (List Int × Int × Unit) → Option ((Bool × Unit)) := fun (a0, a1, _) =>
  match indexW (a0, a1, ()) with
  | none => none
  | some (y0, _) => some ((ile (0 : Int) y0), ())
def containsW (v : (List Int × Int × Unit)) : Option ((Bool × Unit)) := lock (containsW_d v)
theorem containsW_eq (v : (List Int × Int × Unit)) : containsW v = containsW_d v := lock_eq _
def containsW_dC : (List Int × Int × Unit) → Option ((Bool × Unit)) := fun (a0, a1, _) =>
  match indexWC (a0, a1, ()) with
  | none => none
  | some (y0, _) => some ((ileR (0 : Int) y0), ())

theorem containsW_d_ceq : containsW_d = containsW_dC := by
  funext v
  simp only [containsW_d, containsW_dC, ile_eqR, indexW_ceq] <;> rfl

def containsWC (v : denL (leaves containsW_i)) : Option (denL (leaves containsW_o)) := containsW_dC v

theorem containsW_ceq : containsW = containsWC := by
  funext v
  rw [containsW_eq, containsW_d_ceq]; rfl


-- slices.Grow[[]uint32,uint32]
abbrev growW_i : Items := [(.tmp 0, .nil (.int .u32)), (.tmp 1, .dat (.int .i64))]
abbrev growW_o : Items := [(.tmp 0, .own 34 (.int .u32))]
abbrev growW_r : List RS := [.one]
def growW_d : (Int × Unit) → Option ((List Int × Unit)) := fun (a0, _) =>
  match (ilt a0 (0 : Int)) with
  | true => none
  | false => match (ilt (0 : Int) (IntKind.wrap .i64 (a0 - (IntKind.wrap .i64 ((0 : Int) - (0 : Int)))))) with
    | true => match subl ([] : List Unit) (0 : Int) (0 : Int) with
      | none => none
      | some _u0 => match (fitsI (IntKind.wrap .i64 (a0 - (IntKind.wrap .i64 ((0 : Int) - (0 : Int)))))) with
        | true => match subl (drep (dnat (IntKind.wrap .i64 (a0 - (IntKind.wrap .i64 ((0 : Int) - (0 : Int)))))) (0 : Int)) (0 : Int) (0 : Int) with
          | none => none
          | some x1 => some ((dtake (dnat (dlen x1)) (drep (dnat (IntKind.wrap .i64 (a0 - (IntKind.wrap .i64 ((0 : Int) - (0 : Int)))))) (0 : Int))), ())
        | false => none
    | false => some (([] : List (Int)), ())
def growW (v : (Int × Unit)) : Option ((List Int × Unit)) := lock (growW_d v)
theorem growW_eq (v : (Int × Unit)) : growW v = growW_d v := lock_eq _
def growW_dC : (Int × Unit) → Option ((List Int × Unit)) := fun (a0, _) =>
  match (iltR a0 (0 : Int)) with
  | true => none
  | false => match (iltR (0 : Int) (IntKind.wrap .i64 (a0 - (IntKind.wrap .i64 ((0 : Int) - (0 : Int)))))) with
    | true => match sublR ([] : List Unit) (0 : Int) (0 : Int) with
      | none => none
      | some _u0 => match (fitsIR (IntKind.wrap .i64 (a0 - (IntKind.wrap .i64 ((0 : Int) - (0 : Int)))))) with
        | true => match sublR (drep (dnat (IntKind.wrap .i64 (a0 - (IntKind.wrap .i64 ((0 : Int) - (0 : Int)))))) (0 : Int)) (0 : Int) (0 : Int) with
          | none => none
          | some x1 => some ((dtake (dnat (dlen x1)) (drep (dnat (IntKind.wrap .i64 (a0 - (IntKind.wrap .i64 ((0 : Int) - (0 : Int)))))) (0 : Int))), ())
        | false => none
    | false => some (([] : List (Int)), ())

theorem growW_d_ceq : growW_d = growW_dC := by
  funext v
  simp only [growW_d, growW_dC, subl_eq, fitsI_eq, ilt_eqR] <;> rfl

def growWC (v : denL (leaves growW_i)) : Option (denL (leaves growW_o)) := growW_dC v

theorem growW_ceq : growW = growWC := by
  funext v
  rw [growW_eq, growW_d_ceq]; rfl


-- slices.Concat[[]uint32,uint32]
abbrev concatW_i : Items := [(.tmp 0, .dat (.slice (.slice (.int .u32))))]
abbrev concatW_o : Items := [(.tmp 0, .own 34 (.int .u32))]
abbrev concatW_r : List RS := [.one]
abbrev concatW_i1 : Items := [(.tmp 6, .own 34 (.int .u32)), (.tmp 25, .dat (.slice (.slice (.int .u32)))), (.tmp 26, .dat (.int .i64)), (.tmp 27, .dat (.int .i64))]
abbrev concatW_o1 : Outs := [(.exit 2, [(.tmp 6, .own 34 (.int .u32))])]
def concatW_s1 : (List Int × List (List Int) × Int × Int × Unit) → Option ((List Int × List (List Int) × Int × Int × Unit) ⊕ (List Int × Unit) ⊕ Unit) := fun (a0, a1, a2, a3, _) =>
  match (ilt a3 a2) with
  | true => match idx a1 a3 with
    | none => none
    | some x0 => match (fits ((dlen a0) + (dlen x0))) with
      | true => some (.inl ((dapp a0 x0), a1, a2, (IntKind.wrap .i64 (a3 + (1 : Int))), ()))
      | false => none
  | false => some (.inr (.inl (a0, ())))
abbrev concatW_i0 : Items := [(.tmp 0, .dat (.slice (.slice (.int .u32)))), (.tmp 3, .dat (.int .i64)), (.tmp 9, .dat (.slice (.slice (.int .u32)))), (.tmp 10, .dat (.int .i64)), (.tmp 11, .dat (.int .i64))]
abbrev concatW_o0 : Outs := [(.exit 0, [(.tmp 0, .dat (.slice (.slice (.int .u32)))), (.tmp 3, .dat (.int .i64))])]
def concatW_s0 : (List (List Int) × Int × List (List Int) × Int × Int × Unit) → Option ((List (List Int) × Int × List (List Int) × Int × Int × Unit) ⊕ (List (List Int) × Int × Unit) ⊕ Unit) := fun (a0, a1, a2, a3, a4, _) =>
  match (ilt a4 a3) with
  | true => match idx a2 a4 with
    | none => none
    | some x0 => match (ilt (IntKind.wrap .i64 (a1 + (dlen x0))) (0 : Int)) with
      | true => none
      | false => some (.inl (a0, (IntKind.wrap .i64 (a1 + (dlen x0))), a2, a3, (IntKind.wrap .i64 (a4 + (1 : Int))), ()))
  | false => some (.inr (.inl (a0, a1, ())))
def concatW_d : (List (List Int) × Unit) → Option ((List Int × Unit)) := fun (a0, _) =>
  match iterL concatW_s0 many (a0, (0 : Int), a0, (dlen a0), (0 : Int), ()) with
  | none => none
  | some r => match r with
    | .inl (o0, o1, _) => match growW (o1, ()) with
      | none => none
      | some (y2, _) => match iterL concatW_s1 many (y2, o0, (dlen o0), (0 : Int), ()) with
        | none => none
        | some r => match r with
          | .inl (o3, _) => some (o3, ())
          | .inr _ => none
    | .inr _ => none
def concatW (v : (List (List Int) × Unit)) : Option ((List Int × Unit)) := lock (concatW_d v)
theorem concatW_eq (v : (List (List Int) × Unit)) : concatW v = concatW_d v := lock_eq _
def concatW_s1C : (List Int × List (List Int) × Int × Int × Unit) → Option ((List Int × List (List Int) × Int × Int × Unit) ⊕ (List Int × Unit) ⊕ Unit) := fun (a0, a1, a2, a3, _) =>
  match (iltR a3 a2) with
  | true => match idxR a1 a3 with
    | none => none
    | some x0 => match (fitsR ((dlen a0) + (dlen x0))) with
      | true => some (.inl ((dapp a0 x0), a1, a2, (IntKind.wrap .i64 (a3 + (1 : Int))), ()))
      | false => none
  | false => some (.inr (.inl (a0, ())))

theorem concatW_s1_ceq : concatW_s1 = concatW_s1C := by
  funext v
  simp only [concatW_s1, concatW_s1C, idx_eq, fits_eq, ilt_eqR] <;> rfl

def concatW_s0C : (List (List Int) × Int × List (List Int) × Int × Int × Unit) → Option ((List (List Int) × Int × List (List Int) × Int × Int × Unit) ⊕ (List (List Int) × Int × Unit) ⊕ Unit) := fun (a0, a1, a2, a3, a4, _) =>
  match (iltR a4 a3) with
  | true => match idxR a2 a4 with
    | none => none
    | some x0 => match (iltR (IntKind.wrap .i64 (a1 + (dlen x0))) (0 : Int)) with
      | true => none
      | false => some (.inl (a0, (IntKind.wrap .i64 (a1 + (dlen x0))), a2, a3, (IntKind.wrap .i64 (a4 + (1 : Int))), ()))
  | false => some (.inr (.inl (a0, a1, ())))

theorem concatW_s0_ceq : concatW_s0 = concatW_s0C := by
  funext v
  simp only [concatW_s0, concatW_s0C, idx_eq, ilt_eqR] <;> rfl

def concatW_dC : (List (List Int) × Unit) → Option ((List Int × Unit)) := fun (a0, _) =>
  match iterO concatW_s0C many (a0, (0 : Int), a0, (dlen a0), (0 : Int), ()) with
  | none => none
  | some r => match r with
    | .inl (o0, o1, _) => match growWC (o1, ()) with
      | none => none
      | some (y2, _) => match iterO concatW_s1C many (y2, o0, (dlen o0), (0 : Int), ()) with
        | none => none
        | some r => match r with
          | .inl (o3, _) => some (o3, ())
          | .inr _ => none
    | .inr _ => none

theorem concatW_d_ceq : concatW_d = concatW_dC := by
  funext v
  simp only [concatW_d, concatW_dC, iterL_eq, growW_ceq, concatW_s1_ceq, concatW_s0_ceq] <;> rfl

def concatWC (v : denL (leaves concatW_i)) : Option (denL (leaves concatW_o)) := concatW_dC v

theorem concatW_ceq : concatW = concatWC := by
  funext v
  rw [concatW_eq, concatW_d_ceq]; rfl


-- cmp.isNaN[uint32]
abbrev nanW_i : Items := [(.tmp 0, .dat (.int .u32))]
abbrev nanW_o : Items := [(.tmp 0, .dat .bool)]
abbrev nanW_r : List RS := [.one]
def nanW_d : (Int × Unit) → Option ((Bool × Unit)) := fun (a0, _) =>
  some ((!(ieq a0 a0)), ())
def nanW (v : (Int × Unit)) : Option ((Bool × Unit)) := lock (nanW_d v)
theorem nanW_eq (v : (Int × Unit)) : nanW v = nanW_d v := lock_eq _
def nanW_dC : (Int × Unit) → Option ((Bool × Unit)) := fun (a0, _) =>
  some ((!(ieqR a0 a0)), ())

theorem nanW_d_ceq : nanW_d = nanW_dC := by
  funext v
  simp only [nanW_d, nanW_dC, ieq_eqR] <;> rfl

def nanWC (v : denL (leaves nanW_i)) : Option (denL (leaves nanW_o)) := nanW_dC v

theorem nanW_ceq : nanW = nanWC := by
  funext v
  rw [nanW_eq, nanW_d_ceq]; rfl


-- cmp.Less[uint32]
abbrev lessW_i : Items := [(.tmp 0, .dat (.int .u32)), (.tmp 1, .dat (.int .u32))]
abbrev lessW_o : Items := [(.tmp 0, .dat .bool)]
abbrev lessW_r : List RS := [.one]
def lessW_d : (Int × Int × Unit) → Option ((Bool × Unit)) := fun (a0, a1, _) =>
  match nanW (a0, ()) with
  | none => none
  | some (y0, _) => match y0 with
    | true => match nanW (a1, ()) with
      | none => none
      | some (y1, _) => match (!y1) with
        | true => some (true, ())
        | false => some ((ilt a0 a1), ())
    | false => some ((ilt a0 a1), ())
def lessW (v : (Int × Int × Unit)) : Option ((Bool × Unit)) := lock (lessW_d v)
theorem lessW_eq (v : (Int × Int × Unit)) : lessW v = lessW_d v := lock_eq _
def lessW_dC : (Int × Int × Unit) → Option ((Bool × Unit)) := fun (a0, a1, _) =>
  match nanWC (a0, ()) with
  | none => none
  | some (y0, _) => match y0 with
    | true => match nanWC (a1, ()) with
      | none => none
      | some (y1, _) => match (!y1) with
        | true => some (true, ())
        | false => some ((iltR a0 a1), ())
    | false => some ((iltR a0 a1), ())

theorem lessW_d_ceq : lessW_d = lessW_dC := by
  funext v
  simp only [lessW_d, lessW_dC, ilt_eqR, nanW_ceq] <;> rfl

def lessWC (v : denL (leaves lessW_i)) : Option (denL (leaves lessW_o)) := lessW_dC v

theorem lessW_ceq : lessW = lessWC := by
  funext v
  rw [lessW_eq, lessW_d_ceq]; rfl


-- math/bits.Len64
abbrev len64_i : Items := [(.tmp 0, .dat (.int .u64))]
abbrev len64_o : Items := [(.tmp 0, .dat (.int .i64))]
abbrev len64_r : List RS := [.one]
def len64_d : (Int × Unit) → Option ((Int × Unit)) := fun (a0, _) =>
  match (ile (4294967296 : Int) a0) with
  | true => match shr? .u64 a0 (32 : Int) with
    | none => none
    | some x0 => match (ile (65536 : Int) x0) with
      | true => match shr? .u64 x0 (16 : Int) with
        | none => none
        | some x1 => match (ile (256 : Int) x1) with
          | true => match shr? .u64 x1 (8 : Int) with
            | none => none
            | some x2 => match idx ([(0 : Int), (1 : Int), (2 : Int), (2 : Int), (3 : Int), (3 : Int), (3 : Int), (3 : Int), (4 : Int), (4 : Int), (4 : Int), (4 : Int), (4 : Int), (4 : Int), (4 : Int), (4 : Int), (5 : Int), (5 : Int), (5 : Int), (5 : Int), (5 : Int), (5 : Int), (5 : Int), (5 : Int), (5 : Int), (5 : Int), (5 : Int), (5 : Int), (5 : Int), (5 : Int), (5 : Int), (5 : Int), (6 : Int), (6 : Int), (6 : Int), (6 : Int), (6 : Int), (6 : Int), (6 : Int), (6 : Int), (6 : Int), (6 : Int), (6 : Int), (6 : Int), (6 : Int), (6 : Int), (6 : Int), (6 : Int), (6 : Int), (6 : Int), (6 : Int), (6 : Int), (6 : Int), (6 : Int), (6 : Int), (6 : Int), (6 : Int), (6 : Int), (6 : Int), (6 : Int), (6 : Int), (6 : Int), (6 : Int), (6 : Int), (7 : Int), (7 : Int), (7 : Int), (7 : Int), (7 : Int), (7 : Int), (7 : Int), (7 : Int), (7 : Int), (7 : Int), (7 : Int), (7 : Int), (7 : Int), (7 : Int), (7 : Int), (7 : Int), (7 : Int), (7 : Int), (7 : Int), (7 : Int), (7 : Int), (7 : Int), (7 : Int), (7 : Int), (7 : Int), (7 : Int), (7 : Int), (7 : Int), (7 : Int), (7 : Int), (7 : Int), (7 : Int), (7 : Int), (7 : Int), (7 : Int), (7 : Int), (7 : Int), (7 : Int), (7 : Int), (7 : Int), (7 : Int), (7 : Int), (7 : Int), (7 : Int), (7 : Int), (7 : Int), (7 : Int), (7 : Int), (7 : Int), (7 : Int), (7 : Int), (7 : Int), (7 : Int), (7 : Int), (7 : Int), (7 : Int), (7 : Int), (7 : Int), (7 : Int), (7 : Int), (7 : Int), (7 : Int), (7 : Int), (7 : Int), (8 : Int), (8 : Int), (8 : Int), (8 : Int), (8 : Int), (8 : Int), (8 : Int), (8 : Int), (8 : Int), (8 : Int), (8 : Int), (8 : Int), (8 : Int), (8 : Int), (8 : Int), (8 : Int), (8 : Int), (8 : Int), (8 : Int), (8 : Int), (8 : Int), (8 : Int), (8 : Int), (8 : Int), (8 : Int), (8 : Int), (8 : Int), (8 : Int), (8 : Int), (8 : Int), (8 : Int), (8 : Int), (8 : Int), (8 : Int), (8 : Int), (8 : Int), (8 : Int), (8 : Int), (8 : Int), (8 : Int), (8 : Int), (8 : Int), (8 : Int), (8 : Int), (8 : Int), (8 : Int), (8 : Int), (8 : Int), (8 : Int), (8 : Int), (8 : Int), (8 : Int), (8 : Int), (8 : Int), (8 : Int), (8 : Int), (8 : Int), (8 : Int), (8 : Int), (8 : Int), (8 : Int), (8 : Int), (8 : Int), (8 : Int), (8 : Int), (8 : Int), (8 : Int), (8 : Int), (8 : Int), (8 : Int), (8 : Int), (8 : Int), (8 : Int), (8 : Int), (8 : Int), (8 : Int), (8 : Int), (8 : Int), (8 : Int), (8 : Int), (8 : Int), (8 : Int), (8 : Int), (8 : Int), (8 : Int), (8 : Int), (8 : Int), (8 : Int), (8 : Int), (8 : Int), (8 : Int), (8 : Int), (8 : Int), (8 : Int), (8 : Int), (8 : Int), (8 : Int), (8 : Int), (8 : Int), (8 : Int), (8 : Int), (8 : Int), (8 : Int), (8 : Int), (8 : Int), (8 : Int), (8 : Int), (8 : Int), (8 : Int), (8 : Int), (8 : Int), (8 : Int), (8 : Int), (8 : Int), (8 : Int), (8 : Int), (8 : Int), (8 : Int), (8 : Int), (8 : Int), (8 : Int), (8 : Int), (8 : Int), (8 : Int), (8 : Int), (8 : Int), (8 : Int), (8 : Int)] : List (Int)) (IntKind.wrap .u8 x2) with
              | none => none
              | some x3 => some ((IntKind.wrap .i64 ((IntKind.wrap .i64 ((IntKind.wrap .i64 ((32 : Int) + (16 : Int))) + (8 : Int))) + (IntKind.wrap .i64 x3))), ())
          | false => match idx ([(0 : Int), (1 : Int), (2 : Int), (2 : Int), (3 : Int), (3 : Int), (3 : Int), (3 : Int), (4 : Int), (4 : Int), (4 : Int), (4 : Int), (4 : Int), (4 : Int), (4 : Int), (4 : Int), (5 : Int), (5 : Int), (5 : Int), (5 : Int), (5 : Int), (5 : Int), (5 : Int), (5 : Int), (5 : Int), (5 : Int), (5 : Int), (5 : Int), (5 : Int), (5 : Int), (5 : Int), (5 : Int), (6 : Int), (6 : Int), (6 : Int), (6 : Int), (6 : Int), (6 : Int), (6 : Int), (6 : Int), (6 : Int), (6 : Int), (6 : Int), (6 : Int), (6 : Int), (6 : Int), (6 : Int), (6 : Int), (6 : Int), (6 : Int), (6 : Int), (6 : Int), (6 : Int), (6 : Int), (6 : Int), (6 : Int), (6 : Int), (6 : Int), (6 : Int), (6 : Int), (6 : Int), (6 : Int), (6 : Int), (6 : Int), (7 : Int), (7 : Int), (7 : Int), (7 : Int), (7 : Int), (7 : Int), (7 : Int), (7 : Int), (7 : Int), (7 : Int), (7 : Int), (7 : Int), (7 : Int), (7 : Int), (7 : Int), (7 : Int), (7 : Int), (7 : Int), (7 : Int), (7 : Int), (7 : Int), (7 : Int), (7 : Int), (7 : Int), (7 : Int), (7 : Int), (7 : Int), (7 : Int), (7 : Int), (7 : Int), (7 : Int), (7 : Int), (7 : Int), (7 : Int), (7 : Int), (7 : Int), (7 : Int), (7 : Int), (7 : Int), (7 : Int), (7 : Int), (7 : Int), (7 : Int), (7 : Int), (7 : Int), (7 : Int), (7 : Int), (7 : Int), (7 : Int), (7 : Int), (7 : Int), (7 : Int), (7 : Int), (7 : Int), (7 : Int), (7 : Int), (7 : Int), (7 : Int), (7 : Int), (7 : Int), (7 : Int), (7 : Int), (7 : Int), (7 : Int), (8 : Int), (8 : Int), (8 : Int), (8 : Int), (8 : Int), (8 : Int), (8 : Int), (8 : Int), (8 : Int), (8 : Int), (8 : Int), (8 : Int), (8 : Int), (8 : Int), (8 : Int), (8 : Int), (8 : Int), (8 : Int), (8 : Int), (8 : Int), (8 : Int), (8 : Int), (8 : Int), (8 : Int), (8 : Int), (8 : Int), (8 : Int), (8 : Int), (8 : Int), (8 : Int), (8 : Int), (8 : Int), (8 : Int), (8 : Int), (8 : Int), (8 : Int), (8 : Int), (8 : Int), (8 : Int), (8 : Int), (8 : Int), (8 : Int), (8 : Int), (8 : Int), (8 : Int), (8 : Int), (8 : Int), (8 : Int), (8 : Int), (8 : Int), (8 : Int), (8 : Int), (8 : Int), (8 : Int), (8 : Int), (8 : Int), (8 : Int), (8 : Int), (8 : Int), (8 : Int), (8 : Int), (8 : Int), (8 : Int), (8 : Int), (8 : Int), (8 : Int), (8 : Int), (8 : Int), (8 : Int), (8 : Int), (8 : Int), (8 : Int), (8 : Int), (8 : Int), (8 : Int), (8 : Int), (8 : Int), (8 : Int), (8 : Int), (8 : Int), (8 : Int), (8 : Int), (8 : Int), (8 : Int), (8 : Int), (8 : Int), (8 : Int), (8 : Int), (8 : Int), (8 : Int), (8 : Int), (8 : Int), (8 : Int), (8 : Int), (8 : Int), (8 : Int), (8 : Int), (8 : Int), (8 : Int), (8 : Int), (8 : Int), (8 : Int), (8 : Int), (8 : Int), (8 : Int), (8 : Int), (8 : Int), (8 : Int), (8 : Int), (8 : Int), (8 : Int), (8 : Int), (8 : Int), (8 : Int), (8 : Int), (8 : Int), (8 : Int), (8 : Int), (8 : Int), (8 : Int), (8 : Int), (8 : Int), (8 : Int), (8 : Int), (8 : Int), (8 : Int), (8 : Int), (8 : Int)] : List (Int)) (IntKind.wrap .u8 x1) with
            | none => none
            | some x4 => some ((IntKind.wrap .i64 ((IntKind.wrap .i64 ((32 : Int) + (16 : Int))) + (IntKind.wrap .i64 x4))), ())
      | false => match (ile (256 : Int) x0) with
        | true => match shr? .u64 x0 (8 : Int) with
          | none => none
          | some x5 => match idx ([(0 : Int), (1 : Int), (2 : Int), (2 : Int), (3 : Int), (3 : Int), (3 : Int), (3 : Int), (4 : Int), (4 : Int), (4 : Int), (4 : Int), (4 : Int), (4 : Int), (4 : Int), (4 : Int), (5 : Int), (5 : Int), (5 : Int), (5 : Int), (5 : Int), (5 : Int), (5 : Int), (5 : Int), (5 : Int), (5 : Int), (5 : Int), (5 : Int), (5 : Int), (5 : Int), (5 : Int), (5 : Int), (6 : Int), (6 : Int), (6 : Int), (6 : Int), (6 : Int), (6 : Int), (6 : Int), (6 : Int), (6 : Int), (6 : Int), (6 : Int), (6 : Int), (6 : Int), (6 : Int), (6 : Int), (6 : Int), (6 : Int), (6 : Int), (6 : Int), (6 : Int), (6 : Int), (6 : Int), (6 : Int), (6 : Int), (6 : Int), (6 : Int), (6 : Int), (6 : Int), (6 : Int), (6 : Int), (6 : Int), (6 : Int), (7 : Int), (7 : Int), (7 : Int), (7 : Int), (7 : Int), (7 : Int), (7 : Int), (7 : Int), (7 : Int), (7 : Int), (7 : Int), (7 : Int), (7 : Int), (7 : Int), (7 : Int), (7 : Int), (7 : Int), (7 : Int), (7 : Int), (7 : Int), (7 : Int), (7 : Int), (7 : Int), (7 : Int), (7 : Int), (7 : Int), (7 : Int), (7 : Int), (7 : Int), (7 : Int), (7 : Int), (7 : Int), (7 : Int), (7 : Int), (7 : Int), (7 : Int), (7 : Int), (7 : Int), (7 : Int), (7 : Int), (7 : Int), (7 : Int), (7 : Int), (7 : Int), (7 : Int), (7 : Int), (7 : Int), (7 : Int), (7 : Int), (7 : Int), (7 : Int), (7 : Int), (7 : Int), (7 : Int), (7 : Int), (7 : Int), (7 : Int), (7 : Int), (7 : Int), (7 : Int), (7 : Int), (7 : Int), (7 : Int), (7 : Int), (8 : Int), (8 : Int), (8 : Int), (8 : Int), (8 : Int), (8 : Int), (8 : Int), (8 : Int), (8 : Int), (8 : Int), (8 : Int), (8 : Int), (8 : Int), (8 : Int), (8 : Int), (8 : Int), (8 : Int), (8 : Int), (8 : Int), (8 : Int), (8 : Int), (8 : Int), (8 : Int), (8 : Int), (8 : Int), (8 : Int), (8 : Int), (8 : Int), (8 : Int), (8 : Int), (8 : Int), (8 : Int), (8 : Int), (8 : Int), (8 : Int), (8 : Int), (8 : Int), (8 : Int), (8 : Int), (8 : Int), (8 : Int), (8 : Int), (8 : Int), (8 : Int), (8 : Int), (8 : Int), (8 : Int), (8 : Int), (8 : Int), (8 : Int), (8 : Int), (8 : Int), (8 : Int), (8 : Int), (8 : Int), (8 : Int), (8 : Int), (8 : Int), (8 : Int), (8 : Int), (8 : Int), (8 : Int), (8 : Int), (8 : Int), (8 : Int), (8 : Int), (8 : Int), (8 : Int), (8 : Int), (8 : Int), (8 : Int), (8 : Int), (8 : Int), (8 : Int), (8 : Int), (8 : Int), (8 : Int), (8 : Int), (8 : Int), (8 : Int), (8 : Int), (8 : Int), (8 : Int), (8 : Int), (8 : Int), (8 : Int), (8 : Int), (8 : Int), (8 : Int), (8 : Int), (8 : Int), (8 : Int), (8 : Int), (8 : Int), (8 : Int), (8 : Int), (8 : Int), (8 : Int), (8 : Int), (8 : Int), (8 : Int), (8 : Int), (8 : Int), (8 : Int), (8 : Int), (8 : Int), (8 : Int), (8 : Int), (8 : Int), (8 : Int), (8 : Int), (8 : Int), (8 : Int), (8 : Int), (8 : Int), (8 : Int), (8 : Int), (8 : Int), (8 : Int), (8 : Int), (8 : Int), (8 : Int), (8 : Int), (8 : Int), (8 : Int), (8 : Int), (8 : Int), (8 : Int)] : List (Int)) (IntKind.wrap .u8 x5) with
            | none => none
            | some x6 => some ((IntKind.wrap .i64 ((IntKind.wrap .i64 ((32 : Int) + (8 : Int))) + (IntKind.wrap .i64 x6))), ())
        | false => match idx ([(0 : Int), (1 : Int), (2 : Int), (2 : Int), (3 : Int), (3 : Int), (3 : Int), (3 : Int), (4 : Int), (4 : Int), (4 : Int), (4 : Int), (4 : Int), (4 : Int), (4 : Int), (4 : Int), (5 : Int), (5 : Int), (5 : Int), (5 : Int), (5 : Int), (5 : Int), (5 : Int), (5 : Int), (5 : Int), (5 : Int), (5 : Int), (5 : Int), (5 : Int), (5 : Int), (5 : Int), (5 : Int), (6 : Int), (6 : Int), (6 : Int), (6 : Int), (6 : Int), (6 : Int), (6 : Int), (6 : Int), (6 : Int), (6 : Int), (6 : Int), (6 : Int), (6 : Int), (6 : Int), (6 : Int), (6 : Int), (6 : Int), (6 : Int), (6 : Int), (6 : Int), (6 : Int), (6 : Int), (6 : Int), (6 : Int), (6 : Int), (6 : Int), (6 : Int), (6 : Int), (6 : Int), (6 : Int), (6 : Int), (6 : Int), (7 : Int), (7 : Int), (7 : Int), (7 : Int), (7 : Int), (7 : Int), (7 : Int), (7 : Int), (7 : Int), (7 : Int), (7 : Int), (7 : Int), (7 : Int), (7 : Int), (7 : Int), (7 : Int), (7 : Int), (7 : Int), (7 : Int), (7 : Int), (7 : Int), (7 : Int), (7 : Int), (7 : Int), (7 : Int), (7 : Int), (7 : Int), (7 : Int), (7 : Int), (7 : Int), (7 : Int), (7 : Int), (7 : Int), (7 : Int), (7 : Int), (7 : Int), (7 : Int), (7 : Int), (7 : Int), (7 : Int), (7 : Int), (7 : Int), (7 : Int), (7 : Int), (7 : Int), (7 : Int), (7 : Int), (7 : Int), (7 : Int), (7 : Int), (7 : Int), (7 : Int), (7 : Int), (7 : Int), (7 : Int), (7 : Int), (7 : Int), (7 : Int), (7 : Int), (7 : Int), (7 : Int), (7 : Int), (7 : Int), (7 : Int), (8 : Int), (8 : Int), (8 : Int), (8 : Int), (8 : Int), (8 : Int), (8 : Int), (8 : Int), (8 : Int), (8 : Int), (8 : Int), (8 : Int), (8 : Int), (8 : Int), (8 : Int), (8 : Int), (8 : Int), (8 : Int), (8 : Int), (8 : Int), (8 : Int), (8 : Int), (8 : Int), (8 : Int), (8 : Int), (8 : Int), (8 : Int), (8 : Int), (8 : Int), (8 : Int), (8 : Int), (8 : Int), (8 : Int), (8 : Int), (8 : Int), (8 : Int), (8 : Int), (8 : Int), (8 : Int), (8 : Int), (8 : Int), (8 : Int), (8 : Int), (8 : Int), (8 : Int), (8 : Int), (8 : Int), (8 : Int), (8 : Int), (8 : Int), (8 : Int), (8 : Int), (8 : Int), (8 : Int), (8 : Int), (8 : Int), (8 : Int), (8 : Int), (8 : Int), (8 : Int), (8 : Int), (8 : Int), (8 : Int), (8 : Int), (8 : Int), (8 : Int), (8 : Int), (8 : Int), (8 : Int), (8 : Int), (8 : Int), (8 : Int), (8 : Int), (8 : Int), (8 : Int), (8 : Int), (8 : Int), (8 : Int), (8 : Int), (8 : Int), (8 : Int), (8 : Int), (8 : Int), (8 : Int), (8 : Int), (8 : Int), (8 : Int), (8 : Int), (8 : Int), (8 : Int), (8 : Int), (8 : Int), (8 : Int), (8 : Int), (8 : Int), (8 : Int), (8 : Int), (8 : Int), (8 : Int), (8 : Int), (8 : Int), (8 : Int), (8 : Int), (8 : Int), (8 : Int), (8 : Int), (8 : Int), (8 : Int), (8 : Int), (8 : Int), (8 : Int), (8 : Int), (8 : Int), (8 : Int), (8 : Int), (8 : Int), (8 : Int), (8 : Int), (8 : Int), (8 : Int), (8 : Int), (8 : Int), (8 : Int), (8 : Int), (8 : Int), (8 : Int), (8 : Int), (8 : Int)] : List (Int)) (IntKind.wrap .u8 x0) with
          | none => none
          | some x7 => some ((IntKind.wrap .i64 ((32 : Int) + (IntKind.wrap .i64 x7))), ())
  | false => match (ile (65536 : Int) a0) with
    | true => match shr? .u64 a0 (16 : Int) with
      | none => none
      | some x8 => match (ile (256 : Int) x8) with
        | true => match shr? .u64 x8 (8 : Int) with
          | none => none
          | some x9 => match idx ([(0 : Int), (1 : Int), (2 : Int), (2 : Int), (3 : Int), (3 : Int), (3 : Int), (3 : Int), (4 : Int), (4 : Int), (4 : Int), (4 : Int), (4 : Int), (4 : Int), (4 : Int), (4 : Int), (5 : Int), (5 : Int), (5 : Int), (5 : Int), (5 : Int), (5 : Int), (5 : Int), (5 : Int), (5 : Int), (5 : Int), (5 : Int), (5 : Int), (5 : Int), (5 : Int), (5 : Int), (5 : Int), (6 : Int), (6 : Int), (6 : Int), (6 : Int), (6 : Int), (6 : Int), (6 : Int), (6 : Int), (6 : Int), (6 : Int), (6 : Int), (6 : Int), (6 : Int), (6 : Int), (6 : Int), (6 : Int), (6 : Int), (6 : Int), (6 : Int), (6 : Int), (6 : Int), (6 : Int), (6 : Int), (6 : Int), (6 : Int), (6 : Int), (6 : Int), (6 : Int), (6 : Int), (6 : Int), (6 : Int), (6 : Int), (7 : Int), (7 : Int), (7 : Int), (7 : Int), (7 : Int), (7 : Int), (7 : Int), (7 : Int), (7 : Int), (7 : Int), (7 : Int), (7 : Int), (7 : Int), (7 : Int), (7 : Int), (7 : Int), (7 : Int), (7 : Int), (7 : Int), (7 : Int), (7 : Int), (7 : Int), (7 : Int), (7 : Int), (7 : Int), (7 : Int), (7 : Int), (7 : Int), (7 : Int), (7 : Int), (7 : Int), (7 : Int), (7 : Int), (7 : Int), (7 : Int), (7 : Int), (7 : Int), (7 : Int), (7 : Int), (7 : Int), (7 : Int), (7 : Int), (7 : Int), (7 : Int), (7 : Int), (7 : Int), (7 : Int), (7 : Int), (7 : Int), (7 : Int), (7 : Int), (7 : Int), (7 : Int), (7 : Int), (7 : Int), (7 : Int), (7 : Int), (7 : Int), (7 : Int), (7 : Int), (7 : Int), (7 : Int), (7 : Int), (7 : Int), (8 : Int), (8 : Int), (8 : Int), (8 : Int), (8 : Int), (8 : Int), (8 : Int), (8 : Int), (8 : Int), (8 : Int), (8 : Int), (8 : Int), (8 : Int), (8 : Int), (8 : Int), (8 : Int), (8 : Int), (8 : Int), (8 : Int), (8 : Int), (8 : Int), (8 : Int), (8 : Int), (8 : Int), (8 : Int), (8 : Int), (8 : Int), (8 : Int), (8 : Int), (8 : Int), (8 : Int), (8 : Int), (8 : Int), (8 : Int), (8 : Int), (8 : Int), (8 : Int), (8 : Int), (8 : Int), (8 : Int), (8 : Int), (8 : Int), (8 : Int), (8 : Int), (8 : Int), (8 : Int), (8 : Int), (8 : Int), (8 : Int), (8 : Int), (8 : Int), (8 : Int), (8 : Int), (8 : Int), (8 : Int), (8 : Int), (8 : Int), (8 : Int), (8 : Int), (8 : Int), (8 : Int), (8 : Int), (8 : Int), (8 : Int), (8 : Int), (8 : Int), (8 : Int), (8 : Int), (8 : Int), (8 : Int), (8 : Int), (8 : Int), (8 : Int), (8 : Int), (8 : Int), (8 : Int), (8 : Int), (8 : Int), (8 : Int), (8 : Int), (8 : Int), (8 : Int), (8 : Int), (8 : Int), (8 : Int), (8 : Int), (8 : Int), (8 : Int), (8 : Int), (8 : Int), (8 : Int), (8 : Int), (8 : Int), (8 : Int), (8 : Int), (8 : Int), (8 : Int), (8 : Int), (8 : Int), (8 : Int), (8 : Int), (8 : Int), (8 : Int), (8 : Int), (8 : Int), (8 : Int), (8 : Int), (8 : Int), (8 : Int), (8 : Int), (8 : Int), (8 : Int), (8 : Int), (8 : Int), (8 : Int), (8 : Int), (8 : Int), (8 : Int), (8 : Int), (8 : Int), (8 : Int), (8 : Int), (8 : Int), (8 : Int), (8 : Int), (8 : Int), (8 : Int), (8 : Int)] : List (Int)) (IntKind.wrap .u8 x9) with
            | none => none
            | some x10 => some ((IntKind.wrap .i64 ((IntKind.wrap .i64 ((IntKind.wrap .i64 ((0 : Int) + (16 : Int))) + (8 : Int))) + (IntKind.wrap .i64 x10))), ())
        | false => match idx ([(0 : Int), (1 : Int), (2 : Int), (2 : Int), (3 : Int), (3 : Int), (3 : Int), (3 : Int), (4 : Int), (4 : Int), (4 : Int), (4 : Int), (4 : Int), (4 : Int), (4 : Int), (4 : Int), (5 : Int), (5 : Int), (5 : Int), (5 : Int), (5 : Int), (5 : Int), (5 : Int), (5 : Int), (5 : Int), (5 : Int), (5 : Int), (5 : Int), (5 : Int), (5 : Int), (5 : Int), (5 : Int), (6 : Int), (6 : Int), (6 : Int), (6 : Int), (6 : Int), (6 : Int), (6 : Int), (6 : Int), (6 : Int), (6 : Int), (6 : Int), (6 : Int), (6 : Int), (6 : Int), (6 : Int), (6 : Int), (6 : Int), (6 : Int), (6 : Int), (6 : Int), (6 : Int), (6 : Int), (6 : Int), (6 : Int), (6 : Int), (6 : Int), (6 : Int), (6 : Int), (6 : Int), (6 : Int), (6 : Int), (6 : Int), (7 : Int), (7 : Int), (7 : Int), (7 : Int), (7 : Int), (7 : Int), (7 : Int), (7 : Int), (7 : Int), (7 : Int), (7 : Int), (7 : Int), (7 : Int), (7 : Int), (7 : Int), (7 : Int), (7 : Int), (7 : Int), (7 : Int), (7 : Int), (7 : Int), (7 : Int), (7 : Int), (7 : Int), (7 : Int), (7 : Int), (7 : Int), (7 : Int), (7 : Int), (7 : Int), (7 : Int), (7 : Int), (7 : Int), (7 : Int), (7 : Int), (7 : Int), (7 : Int), (7 : Int), (7 : Int), (7 : Int), (7 : Int), (7 : Int), (7 : Int), (7 : Int), (7 : Int), (7 : Int), (7 : Int), (7 : Int), (7 : Int), (7 : Int), (7 : Int), (7 : Int), (7 : Int), (7 : Int), (7 : Int), (7 : Int), (7 : Int), (7 : Int), (7 : Int), (7 : Int), (7 : Int), (7 : Int), (7 : Int), (7 : Int), (8 : Int), (8 : Int), (8 : Int), (8 : Int), (8 : Int), (8 : Int), (8 : Int), (8 : Int), (8 : Int), (8 : Int), (8 : Int), (8 : Int), (8 : Int), (8 : Int), (8 : Int), (8 : Int), (8 : Int), (8 : Int), (8 : Int), (8 : Int), (8 : Int), (8 : Int), (8 : Int), (8 : Int), (8 : Int), (8 : Int), (8 : Int), (8 : Int), (8 : Int), (8 : Int), (8 : Int), (8 : Int), (8 : Int), (8 : Int), (8 : Int), (8 : Int), (8 : Int), (8 : Int), (8 : Int), (8 : Int), (8 : Int), (8 : Int), (8 : Int), (8 : Int), (8 : Int), (8 : Int), (8 : Int), (8 : Int), (8 : Int), (8 : Int), (8 : Int), (8 : Int), (8 : Int), (8 : Int), (8 : Int), (8 : Int), (8 : Int), (8 : Int), (8 : Int), (8 : Int), (8 : Int), (8 : Int), (8 : Int), (8 : Int), (8 : Int), (8 : Int), (8 : Int), (8 : Int), (8 : Int), (8 : Int), (8 : Int), (8 : Int), (8 : Int), (8 : Int), (8 : Int), (8 : Int), (8 : Int), (8 : Int), (8 : Int), (8 : Int), (8 : Int), (8 : Int), (8 : Int), (8 : Int), (8 : Int), (8 : Int), (8 : Int), (8 : Int), (8 : Int), (8 : Int), (8 : Int), (8 : Int), (8 : Int), (8 : Int), (8 : Int), (8 : Int), (8 : Int), (8 : Int), (8 : Int), (8 : Int), (8 : Int), (8 : Int), (8 : Int), (8 : Int), (8 : Int), (8 : Int), (8 : Int), (8 : Int), (8 : Int), (8 : Int), (8 : Int), (8 : Int), (8 : Int), (8 : Int), (8 : Int), (8 : Int), (8 : Int), (8 : Int), (8 : Int), (8 : Int), (8 : Int), (8 : Int), (8 : Int), (8 : Int), (8 : Int), (8 : Int), (8 : Int), (8 : Int)] : List (Int)) (IntKind.wrap .u8 x8) with
          | none => none
          | some x11 => some ((IntKind.wrap .i64 ((IntKind.wrap .i64 ((0 : Int) + (16 : Int))) + (IntKind.wrap .i64 x11))), ())
    | false => match (ile (256 : Int) a0) with
      | true => match shr? .u64 a0 (8 : Int) with
        | none => none
        | some x12 => match idx ([(0 : Int), (1 : Int), (2 : Int), (2 : Int), (3 : Int), (3 : Int), (3 : Int), (3 : Int), (4 : Int), (4 : Int), (4 : Int), (4 : Int), (4 : Int), (4 : Int), (4 : Int), (4 : Int), (5 : Int), (5 : Int), (5 : Int), (5 : Int), (5 : Int), (5 : Int), (5 : Int), (5 : Int), (5 : Int), (5 : Int), (5 : Int), (5 : Int), (5 : Int), (5 : Int), (5 : Int), (5 : Int), (6 : Int), (6 : Int), (6 : Int), (6 : Int), (6 : Int), (6 : Int), (6 : Int), (6 : Int), (6 : Int), (6 : Int), (6 : Int), (6 : Int), (6 : Int), (6 : Int), (6 : Int), (6 : Int), (6 : Int), (6 : Int), (6 : Int), (6 : Int), (6 : Int), (6 : Int), (6 : Int), (6 : Int), (6 : Int), (6 : Int), (6 : Int), (6 : Int), (6 : Int), (6 : Int), (6 : Int), (6 : Int), (7 : Int), (7 : Int), (7 : Int), (7 : Int), (7 : Int), (7 : Int), (7 : Int), (7 : Int), (7 : Int), (7 : Int), (7 : Int), (7 : Int), (7 : Int), (7 : Int), (7 : Int), (7 : Int), (7 : Int), (7 : Int), (7 : Int), (7 : Int), (7 : Int), (7 : Int), (7 : Int), (7 : Int), (7 : Int), (7 : Int), (7 : Int), (7 : Int), (7 : Int), (7 : Int), (7 : Int), (7 : Int), (7 : Int), (7 : Int), (7 : Int), (7 : Int), (7 : Int), (7 : Int), (7 : Int), (7 : Int), (7 : Int), (7 : Int), (7 : Int), (7 : Int), (7 : Int), (7 : Int), (7 : Int), (7 : Int), (7 : Int), (7 : Int), (7 : Int), (7 : Int), (7 : Int), (7 : Int), (7 : Int), (7 : Int), (7 : Int), (7 : Int), (7 : Int), (7 : Int), (7 : Int), (7 : Int), (7 : Int), (7 : Int), (8 : Int), (8 : Int), (8 : Int), (8 : Int), (8 : Int), (8 : Int), (8 : Int), (8 : Int), (8 : Int), (8 : Int), (8 : Int), (8 : Int), (8 : Int), (8 : Int), (8 : Int), (8 : Int), (8 : Int), (8 : Int), (8 : Int), (8 : Int), (8 : Int), (8 : Int), (8 : Int), (8 : Int), (8 : Int), (8 : Int), (8 : Int), (8 : Int), (8 : Int), (8 : Int), (8 : Int), (8 : Int), (8 : Int), (8 : Int), (8 : Int), (8 : Int), (8 : Int), (8 : Int), (8 : Int), (8 : Int), (8 : Int), (8 : Int), (8 : Int), (8 : Int), (8 : Int), (8 : Int), (8 : Int), (8 : Int), (8 : Int), (8 : Int), (8 : Int), (8 : Int), (8 : Int), (8 : Int), (8 : Int), (8 : Int), (8 : Int), (8 : Int), (8 : Int), (8 : Int), (8 : Int), (8 : Int), (8 : Int), (8 : Int), (8 : Int), (8 : Int), (8 : Int), (8 : Int), (8 : Int), (8 : Int), (8 : Int), (8 : Int), (8 : Int), (8 : Int), (8 : Int), (8 : Int), (8 : Int), (8 : Int), (8 : Int), (8 : Int), (8 : Int), (8 : Int), (8 : Int), (8 : Int), (8 : Int), (8 : Int), (8 : Int), (8 : Int), (8 : Int), (8 : Int), (8 : Int), (8 : Int), (8 : Int), (8 : Int), (8 : Int), (8 : Int), (8 : Int), (8 : Int), (8 : Int), (8 : Int), (8 : Int), (8 : Int), (8 : Int), (8 : Int), (8 : Int), (8 : Int), (8 : Int), (8 : Int), (8 : Int), (8 : Int), (8 : Int), (8 : Int), (8 : Int), (8 : Int), (8 : Int), (8 : Int), (8 : Int), (8 : Int), (8 : Int), (8 : Int), (8 : Int), (8 : Int), (8 : Int), (8 : Int), (8 : Int), (8 : Int), (8 : Int), (8 : Int)] : List (Int)) (IntKind.wrap .u8 x12) with
          | none => none
          | some x13 => some ((IntKind.wrap .i64 ((IntKind.wrap .i64 ((0 : Int) + (8 : Int))) + (IntKind.wrap .i64 x13))), ())
      | false => match idx ([(0 : Int), (1 : Int), (2 : Int), (2 : Int), (3 : Int), (3 : Int), (3 : Int), (3 : Int), (4 : Int), (4 : Int), (4 : Int), (4 : Int), (4 : Int), (4 : Int), (4 : Int), (4 : Int), (5 : Int), (5 : Int), (5 : Int), (5 : Int), (5 : Int), (5 : Int), (5 : Int), (5 : Int), (5 : Int), (5 : Int), (5 : Int), (5 : Int), (5 : Int), (5 : Int), (5 : Int), (5 : Int), (6 : Int), (6 : Int), (6 : Int), (6 : Int), (6 : Int), (6 : Int), (6 : Int), (6 : Int), (6 : Int), (6 : Int), (6 : Int), (6 : Int), (6 : Int), (6 : Int), (6 : Int), (6 : Int), (6 : Int), (6 : Int), (6 : Int), (6 : Int), (6 : Int), (6 : Int), (6 : Int), (6 : Int), (6 : Int), (6 : Int), (6 : Int), (6 : Int), (6 : Int), (6 : Int), (6 : Int), (6 : Int), (7 : Int), (7 : Int), (7 : Int), (7 : Int), (7 : Int), (7 : Int), (7 : Int), (7 : Int), (7 : Int), (7 : Int), (7 : Int), (7 : Int), (7 : Int), (7 : Int), (7 : Int), (7 : Int), (7 : Int), (7 : Int), (7 : Int), (7 : Int), (7 : Int), (7 : Int), (7 : Int), (7 : Int), (7 : Int), (7 : Int), (7 : Int), (7 : Int), (7 : Int), (7 : Int), (7 : Int), (7 : Int), (7 : Int), (7 : Int), (7 : Int), (7 : Int), (7 : Int), (7 : Int), (7 : Int), (7 : Int), (7 : Int), (7 : Int), (7 : Int), (7 : Int), (7 : Int), (7 : Int), (7 : Int), (7 : Int), (7 : Int), (7 : Int), (7 : Int), (7 : Int), (7 : Int), (7 : Int), (7 : Int), (7 : Int), (7 : Int), (7 : Int), (7 : Int), (7 : Int), (7 : Int), (7 : Int), (7 : Int), (7 : Int), (8 : Int), (8 : Int), (8 : Int), (8 : Int), (8 : Int), (8 : Int), (8 : Int), (8 : Int), (8 : Int), (8 : Int), (8 : Int), (8 : Int), (8 : Int), (8 : Int), (8 : Int), (8 : Int), (8 : Int), (8 : Int), (8 : Int), (8 : Int), (8 : Int), (8 : Int), (8 : Int), (8 : Int), (8 : Int), (8 : Int), (8 : Int), (8 : Int), (8 : Int), (8 : Int), (8 : Int), (8 : Int), (8 : Int), (8 : Int), (8 : Int), (8 : Int), (8 : Int), (8 : Int), (8 : Int), (8 : Int), (8 : Int), (8 : Int), (8 : Int), (8 : Int), (8 : Int), (8 : Int), (8 : Int), (8 : Int), (8 : Int), (8 : Int), (8 : Int), (8 : Int), (8 : Int), (8 : Int), (8 : Int), (8 : Int), (8 : Int), (8 : Int), (8 : Int), (8 : Int), (8 : Int), (8 : Int), (8 : Int), (8 : Int), (8 : Int), (8 : Int), (8 : Int), (8 : Int), (8 : Int), (8 : Int), (8 : Int), (8 : Int), (8 : Int), (8 : Int), (8 : Int), (8 : Int), (8 : Int), (8 : Int), (8 : Int), (8 : Int), (8 : Int), (8 : Int), (8 : Int), (8 : Int), (8 : Int), (8 : Int), (8 : Int), (8 : Int), (8 : Int), (8 : Int), (8 : Int), (8 : Int), (8 : Int), (8 : Int), (8 : Int), (8 : Int), (8 : Int), (8 : Int), (8 : Int), (8 : Int), (8 : Int), (8 : Int), (8 : Int), (8 : Int), (8 : Int), (8 : Int), (8 : Int), (8 : Int), (8 : Int), (8 : Int), (8 : Int), (8 : Int), (8 : Int), (8 : Int), (8 : Int), (8 : Int), (8 : Int), (8 : Int), (8 : Int), (8 : Int), (8 : Int), (8 : Int), (8 : Int), (8 : Int), (8 : Int), (8 : Int), (8 : Int), (8 : Int)] : List (Int)) (IntKind.wrap .u8 a0) with
        | none => none
        | some x14 => some ((IntKind.wrap .i64 ((0 : Int) + (IntKind.wrap .i64 x14))), ())
def len64 (v : (Int × Unit)) : Option ((Int × Unit)) := lock (len64_d v)
theorem len64_eq (v : (Int × Unit)) : len64 v = len64_d v := lock_eq _
def len64_dC : (Int × Unit) → Option ((Int × Unit)) := fun (a0, _) =>
  match (ileR (4294967296 : Int) a0) with
  | true => match shrR .u64 a0 (32 : Int) with
    | none => none
    | some x0 => match (ileR (65536 : Int) x0) with
      | true => match shrR .u64 x0 (16 : Int) with
        | none => none
        | some x1 => match (ileR (256 : Int) x1) with
          | true => match shrR .u64 x1 (8 : Int) with
            | none => none
            | some x2 => match idxR ([(0 : Int), (1 : Int), (2 : Int), (2 : Int), (3 : Int), (3 : Int), (3 : Int), (3 : Int), (4 : Int), (4 : Int), (4 : Int), (4 : Int), (4 : Int), (4 : Int), (4 : Int), (4 : Int), (5 : Int), (5 : Int), (5 : Int), (5 : Int), (5 : Int), (5 : Int), (5 : Int), (5 : Int), (5 : Int), (5 : Int), (5 : Int), (5 : Int), (5 : Int), (5 : Int), (5 : Int), (5 : Int), (6 : Int), (6 : Int), (6 : Int), (6 : Int), (6 : Int), (6 : Int), (6 : Int), (6 : Int), (6 : Int), (6 : Int), (6 : Int), (6 : Int), (6 : Int), (6 : Int), (6 : Int), (6 : Int), (6 : Int), (6 : Int), (6 : Int), (6 : Int), (6 : Int), (6 : Int), (6 : Int), (6 : Int), (6 : Int), (6 : Int), (6 : Int), (6 : Int), (6 : Int), (6 : Int), (6 : Int), (6 : Int), (7 : Int), (7 : Int), (7 : Int), (7 : Int), (7 : Int), (7 : Int), (7 : Int), (7 : Int), (7 : Int), (7 : Int), (7 : Int), (7 : Int), (7 : Int), (7 : Int), (7 : Int), (7 : Int), (7 : Int), (7 : Int), (7 : Int), (7 : Int), (7 : Int), (7 : Int), (7 : Int), (7 : Int), (7 : Int), (7 : Int), (7 : Int), (7 : Int), (7 : Int), (7 : Int), (7 : Int), (7 : Int), (7 : Int), (7 : Int), (7 : Int), (7 : Int), (7 : Int), (7 : Int), (7 : Int), (7 : Int), (7 : Int), (7 : Int), (7 : Int), (7 : Int), (7 : Int), (7 : Int), (7 : Int), (7 : Int), (7 : Int), (7 : Int), (7 : Int), (7 : Int), (7 : Int), (7 : Int), (7 : Int), (7 : Int), (7 : Int), (7 : Int), (7 : Int), (7 : Int), (7 : Int), (7 : Int), (7 : Int), (7 : Int), (8 : Int), (8 : Int), (8 : Int), (8 : Int), (8 : Int), (8 : Int), (8 : Int), (8 : Int), (8 : Int), (8 : Int), (8 : Int), (8 : Int), (8 : Int), (8 : Int), (8 : Int), (8 : Int), (8 : Int), (8 : Int), (8 : Int), (8 : Int), (8 : Int), (8 : Int), (8 : Int), (8 : Int), (8 : Int), (8 : Int), (8 : Int), (8 : Int), (8 : Int), (8 : Int), (8 : Int), (8 : Int), (8 : Int), (8 : Int), (8 : Int), (8 : Int), (8 : Int), (8 : Int), (8 : Int), (8 : Int), (8 : Int), (8 : Int), (8 : Int), (8 : Int), (8 : Int), (8 : Int), (8 : Int), (8 : Int), (8 : Int), (8 : Int), (8 : Int), (8 : Int), (8 : Int), (8 : Int), (8 : Int), (8 : Int), (8 : Int), (8 : Int), (8 : Int), (8 : Int), (8 : Int), (8 : Int), (8 : Int), (8 : Int), (8 : Int), (8 : Int), (8 : Int), (8 : Int), (8 : Int), (8 : Int), (8 : Int), (8 : Int), (8 : Int), (8 : Int), (8 : Int), (8 : Int), (8 : Int), (8 : Int), (8 : Int), (8 : Int), (8 : Int), (8 : Int), (8 : Int), (8 : Int), (8 : Int), (8 : Int), (8 : Int), (8 : Int), (8 : Int), (8 : Int), (8 : Int), (8 : Int), (8 : Int), (8 : Int), (8 : Int), (8 : Int), (8 : Int), (8 : Int), (8 : Int), (8 : Int), (8 : Int), (8 : Int), (8 : Int), (8 : Int), (8 : Int), (8 : Int), (8 : Int), (8 : Int), (8 : Int), (8 : Int), (8 : Int), (8 : Int), (8 : Int), (8 : Int), (8 : Int), (8 : Int), (8 : Int), (8 : Int), (8 : Int), (8 : Int), (8 : Int), (8 : Int), (8 : Int), (8 : Int), (8 : Int), (8 : Int), (8 : Int), (8 : Int)] : List (Int)) (IntKind.wrap .u8 x2) with
              | none => none
              | some x3 => some ((IntKind.wrap .i64 ((IntKind.wrap .i64 ((IntKind.wrap .i64 ((32 : Int) + (16 : Int))) + (8 : Int))) + (IntKind.wrap .i64 x3))), ())
          | false => match idxR ([(0 : Int), (1 : Int), (2 : Int), (2 : Int), (3 : Int), (3 : Int), (3 : Int), (3 : Int), (4 : Int), (4 : Int), (4 : Int), (4 : Int), (4 : Int), (4 : Int), (4 : Int), (4 : Int), (5 : Int), (5 : Int), (5 : Int), (5 : Int), (5 : Int), (5 : Int), (5 : Int), (5 : Int), (5 : Int), (5 : Int), (5 : Int), (5 : Int), (5 : Int), (5 : Int), (5 : Int), (5 : Int), (6 : Int), (6 : Int), (6 : Int), (6 : Int), (6 : Int), (6 : Int), (6 : Int), (6 : Int), (6 : Int), (6 : Int), (6 : Int), (6 : Int), (6 : Int), (6 : Int), (6 : Int), (6 : Int), (6 : Int), (6 : Int), (6 : Int), (6 : Int), (6 : Int), (6 : Int), (6 : Int), (6 : Int), (6 : Int), (6 : Int), (6 : Int), (6 : Int), (6 : Int), (6 : Int), (6 : Int), (6 : Int), (7 : Int), (7 : Int), (7 : Int), (7 : Int), (7 : Int), (7 : Int), (7 : Int), (7 : Int), (7 : Int), (7 : Int), (7 : Int), (7 : Int), (7 : Int), (7 : Int), (7 : Int), (7 : Int), (7 : Int), (7 : Int), (7 : Int), (7 : Int), (7 : Int), (7 : Int), (7 : Int), (7 : Int), (7 : Int), (7 : Int), (7 : Int), (7 : Int), (7 : Int), (7 : Int), (7 : Int), (7 : Int), (7 : Int), (7 : Int), (7 : Int), (7 : Int), (7 : Int), (7 : Int), (7 : Int), (7 : Int), (7 : Int), (7 : Int), (7 : Int), (7 : Int), (7 : Int), (7 : Int), (7 : Int), (7 : Int), (7 : Int), (7 : Int), (7 : Int), (7 : Int), (7 : Int), (7 : Int), (7 : Int), (7 : Int), (7 : Int), (7 : Int), (7 : Int), (7 : Int), (7 : Int), (7 : Int), (7 : Int), (7 : Int), (8 : Int), (8 : Int), (8 : Int), (8 : Int), (8 : Int), (8 : Int), (8 : Int), (8 : Int), (8 : Int), (8 : Int), (8 : Int), (8 : Int), (8 : Int), (8 : Int), (8 : Int), (8 : Int), (8 : Int), (8 : Int), (8 : Int), (8 : Int), (8 : Int), (8 : Int), (8 : Int), (8 : Int), (8 : Int), (8 : Int), (8 : Int), (8 : Int), (8 : Int), (8 : Int), (8 : Int), (8 : Int), (8 : Int), (8 : Int), (8 : Int), (8 : Int), (8 : Int), (8 : Int), (8 : Int), (8 : Int), (8 : Int), (8 : Int), (8 : Int), (8 : Int), (8 : Int), (8 : Int), (8 : Int), (8 : Int), (8 : Int), (8 : Int), (8 : Int), (8 : Int), (8 : Int), (8 : Int), (8 : Int), (8 : Int), (8 : Int), (8 : Int), (8 : Int), (8 : Int), (8 : Int), (8 : Int), (8 : Int), (8 : Int), (8 : Int), (8 : Int), (8 : Int), (8 : Int), (8 : Int), (8 : Int), (8 : Int), (8 : Int), (8 : Int), (8 : Int), (8 : Int), (8 : Int), (8 : Int), (8 : Int), (8 : Int), (8 : Int), (8 : Int), (8 : Int), (8 : Int), (8 : Int), (8 : Int), (8 : Int), (8 : Int), (8 : Int), (8 : Int), (8 : Int), (8 : Int), (8 : Int), (8 : Int), (8 : Int), (8 : Int), (8 : Int), (8 : Int), (8 : Int), (8 : Int), (8 : Int), (8 : Int), (8 : Int), (8 : Int), (8 : Int), (8 : Int), (8 : Int), (8 : Int), (8 : Int), (8 : Int), (8 : Int), (8 : Int), (8 : Int), (8 : Int), (8 : Int), (8 : Int), (8 : Int), (8 : Int), (8 : Int), (8 : Int), (8 : Int), (8 : Int), (8 : Int), (8 : Int), (8 : Int), (8 : Int), (8 : Int), (8 : Int), (8 : Int)] : List (Int)) (IntKind.wrap .u8 x1) with
            | none => none
            | some x4 => some ((IntKind.wrap .i64 ((IntKind.wrap .i64 ((32 : Int) + (16 : Int))) + (IntKind.wrap .i64 x4))), ())
      | false => match (ileR (256 : Int) x0) with
        | true => match shrR .u64 x0 (8 : Int) with
          | none => none
          | some x5 => match idxR ([(0 : Int), (1 : Int), (2 : Int), (2 : Int), (3 : Int), (3 : Int), (3 : Int), (3 : Int), (4 : Int), (4 : Int), (4 : Int), (4 : Int), (4 : Int), (4 : Int), (4 : Int), (4 : Int), (5 : Int), (5 : Int), (5 : Int), (5 : Int), (5 : Int), (5 : Int), (5 : Int), (5 : Int), (5 : Int), (5 : Int), (5 : Int), (5 : Int), (5 : Int), (5 : Int), (5 : Int), (5 : Int), (6 : Int), (6 : Int), (6 : Int), (6 : Int), (6 : Int), (6 : Int), (6 : Int), (6 : Int), (6 : Int), (6 : Int), (6 : Int), (6 : Int), (6 : Int), (6 : Int), (6 : Int), (6 : Int), (6 : Int), (6 : Int), (6 : Int), (6 : Int), (6 : Int), (6 : Int), (6 : Int), (6 : Int), (6 : Int), (6 : Int), (6 : Int), (6 : Int), (6 : Int), (6 : Int), (6 : Int), (6 : Int), (7 : Int), (7 : Int), (7 : Int), (7 : Int), (7 : Int), (7 : Int), (7 : Int), (7 : Int), (7 : Int), (7 : Int), (7 : Int), (7 : Int), (7 : Int), (7 : Int), (7 : Int), (7 : Int), (7 : Int), (7 : Int), (7 : Int), (7 : Int), (7 : Int), (7 : Int), (7 : Int), (7 : Int), (7 : Int), (7 : Int), (7 : Int), (7 : Int), (7 : Int), (7 : Int), (7 : Int), (7 : Int), (7 : Int), (7 : Int), (7 : Int), (7 : Int), (7 : Int), (7 : Int), (7 : Int), (7 : Int), (7 : Int), (7 : Int), (7 : Int), (7 : Int), (7 : Int), (7 : Int), (7 : Int), (7 : Int), (7 : Int), (7 : Int), (7 : Int), (7 : Int), (7 : Int), (7 : Int), (7 : Int), (7 : Int), (7 : Int), (7 : Int), (7 : Int), (7 : Int), (7 : Int), (7 : Int), (7 : Int), (7 : Int), (8 : Int), (8 : Int), (8 : Int), (8 : Int), (8 : Int), (8 : Int), (8 : Int), (8 : Int), (8 : Int), (8 : Int), (8 : Int), (8 : Int), (8 : Int), (8 : Int), (8 : Int), (8 : Int), (8 : Int), (8 : Int), (8 : Int), (8 : Int), (8 : Int), (8 : Int), (8 : Int), (8 : Int), (8 : Int), (8 : Int), (8 : Int), (8 : Int), (8 : Int), (8 : Int), (8 : Int), (8 : Int), (8 : Int), (8 : Int), (8 : Int), (8 : Int), (8 : Int), (8 : Int), (8 : Int), (8 : Int), (8 : Int), (8 : Int), (8 : Int), (8 : Int), (8 : Int), (8 : Int), (8 : Int), (8 : Int), (8 : Int), (8 : Int), (8 : Int), (8 : Int), (8 : Int), (8 : Int), (8 : Int), (8 : Int), (8 : Int), (8 : Int), (8 : Int), (8 : Int), (8 : Int), (8 : Int), (8 : Int), (8 : Int), (8 : Int), (8 : Int), (8 : Int), (8 : Int), (8 : Int), (8 : Int), (8 : Int), (8 : Int), (8 : Int), (8 : Int), (8 : Int), (8 : Int), (8 : Int), (8 : Int), (8 : Int), (8 : Int), (8 : Int), (8 : Int), (8 : Int), (8 : Int), (8 : Int), (8 : Int), (8 : Int), (8 : Int), (8 : Int), (8 : Int), (8 : Int), (8 : Int), (8 : Int), (8 : Int), (8 : Int), (8 : Int), (8 : Int), (8 : Int), (8 : Int), (8 : Int), (8 : Int), (8 : Int), (8 : Int), (8 : Int), (8 : Int), (8 : Int), (8 : Int), (8 : Int), (8 : Int), (8 : Int), (8 : Int), (8 : Int), (8 : Int), (8 : Int), (8 : Int), (8 : Int), (8 : Int), (8 : Int), (8 : Int), (8 : Int), (8 : Int), (8 : Int), (8 : Int), (8 : Int), (8 : Int), (8 : Int), (8 : Int), (8 : Int)] : List (Int)) (IntKind.wrap .u8 x5) with
            | none => none
            | some x6 => some ((IntKind.wrap .i64 ((IntKind.wrap .i64 ((32 : Int) + (8 : Int))) + (IntKind.wrap .i64 x6))), ())
        | false => match idxR ([(0 : Int), (1 : Int), (2 : Int), (2 : Int), (3 : Int), (3 : Int), (3 : Int), (3 : Int), (4 : Int), (4 : Int), (4 : Int), (4 : Int), (4 : Int), (4 : Int), (4 : Int), (4 : Int), (5 : Int), (5 : Int), (5 : Int), (5 : Int), (5 : Int), (5 : Int), (5 : Int), (5 : Int), (5 : Int), (5 : Int), (5 : Int), (5 : Int), (5 : Int), (5 : Int), (5 : Int), (5 : Int), (6 : Int), (6 : Int), (6 : Int), (6 : Int), (6 : Int), (6 : Int), (6 : Int), (6 : Int), (6 : Int), (6 : Int), (6 : Int), (6 : Int), (6 : Int), (6 : Int), (6 : Int), (6 : Int), (6 : Int), (6 : Int), (6 : Int), (6 : Int), (6 : Int), (6 : Int), (6 : Int), (6 : Int), (6 : Int), (6 : Int), (6 : Int), (6 : Int), (6 : Int), (6 : Int), (6 : Int), (6 : Int), (7 : Int), (7 : Int), (7 : Int), (7 : Int), (7 : Int), (7 : Int), (7 : Int), (7 : Int), (7 : Int), (7 : Int), (7 : Int), (7 : Int), (7 : Int), (7 : Int), (7 : Int), (7 : Int), (7 : Int), (7 : Int), (7 : Int), (7 : Int), (7 : Int), (7 : Int), (7 : Int), (7 : Int), (7 : Int), (7 : Int), (7 : Int), (7 : Int), (7 : Int), (7 : Int), (7 : Int), (7 : Int), (7 : Int), (7 : Int), (7 : Int), (7 : Int), (7 : Int), (7 : Int), (7 : Int), (7 : Int), (7 : Int), (7 : Int), (7 : Int), (7 : Int), (7 : Int), (7 : Int), (7 : Int), (7 : Int), (7 : Int), (7 : Int), (7 : Int), (7 : Int), (7 : Int), (7 : Int), (7 : Int), (7 : Int), (7 : Int), (7 : Int), (7 : Int), (7 : Int), (7 : Int), (7 : Int), (7 : Int), (7 : Int), (8 : Int), (8 : Int), (8 : Int), (8 : Int), (8 : Int), (8 : Int), (8 : Int), (8 : Int), (8 : Int), (8 : Int), (8 : Int), (8 : Int), (8 : Int), (8 : Int), (8 : Int), (8 : Int), (8 : Int), (8 : Int), (8 : Int), (8 : Int), (8 : Int), (8 : Int), (8 : Int), (8 : Int), (8 : Int), (8 : Int), (8 : Int), (8 : Int), (8 : Int), (8 : Int), (8 : Int), (8 : Int), (8 : Int), (8 : Int), (8 : Int), (8 : Int), (8 : Int), (8 : Int), (8 : Int), (8 : Int), (8 : Int), (8 : Int), (8 : Int), (8 : Int), (8 : Int), (8 : Int), (8 : Int), (8 : Int), (8 : Int), (8 : Int), (8 : Int), (8 : Int), (8 : Int), (8 : Int), (8 : Int), (8 : Int), (8 : Int), (8 : Int), (8 : Int), (8 : Int), (8 : Int), (8 : Int), (8 : Int), (8 : Int), (8 : Int), (8 : Int), (8 : Int), (8 : Int), (8 : Int), (8 : Int), (8 : Int), (8 : Int), (8 : Int), (8 : Int), (8 : Int), (8 : Int), (8 : Int), (8 : Int), (8 : Int), (8 : Int), (8 : Int), (8 : Int), (8 : Int), (8 : Int), (8 : Int), (8 : Int), (8 : Int), (8 : Int), (8 : Int), (8 : Int), (8 : Int), (8 : Int), (8 : Int), (8 : Int), (8 : Int), (8 : Int), (8 : Int), (8 : Int), (8 : Int), (8 : Int), (8 : Int), (8 : Int), (8 : Int), (8 : Int), (8 : Int), (8 : Int), (8 : Int), (8 : Int), (8 : Int), (8 : Int), (8 : Int), (8 : Int), (8 : Int), (8 : Int), (8 : Int), (8 : Int), (8 : Int), (8 : Int), (8 : Int), (8 : Int), (8 : Int), (8 : Int), (8 : Int), (8 : Int), (8 : Int), (8 : Int), (8 : Int), (8 : Int)] : List (Int)) (IntKind.wrap .u8 x0) with
          | none => none
          | some x7 => some ((IntKind.wrap .i64 ((32 : Int) + (IntKind.wrap .i64 x7))), ())
  | false => match (ileR (65536 : Int) a0) with
    | true => match shrR .u64 a0 (16 : Int) with
      | none => none
      | some x8 => match (ileR (256 : Int) x8) with
        | true => match shrR .u64 x8 (8 : Int) with
          | none => none
          | some x9 => match idxR ([(0 : Int), (1 : Int), (2 : Int), (2 : Int), (3 : Int), (3 : Int), (3 : Int), (3 : Int), (4 : Int), (4 : Int), (4 : Int), (4 : Int), (4 : Int), (4 : Int), (4 : Int), (4 : Int), (5 : Int), (5 : Int), (5 : Int), (5 : Int), (5 : Int), (5 : Int), (5 : Int), (5 : Int), (5 : Int), (5 : Int), (5 : Int), (5 : Int), (5 : Int), (5 : Int), (5 : Int), (5 : Int), (6 : Int), (6 : Int), (6 : Int), (6 : Int), (6 : Int), (6 : Int), (6 : Int), (6 : Int), (6 : Int), (6 : Int), (6 : Int), (6 : Int), (6 : Int), (6 : Int), (6 : Int), (6 : Int), (6 : Int), (6 : Int), (6 : Int), (6 : Int), (6 : Int), (6 : Int), (6 : Int), (6 : Int), (6 : Int), (6 : Int), (6 : Int), (6 : Int), (6 : Int), (6 : Int), (6 : Int), (6 : Int), (7 : Int), (7 : Int), (7 : Int), (7 : Int), (7 : Int), (7 : Int), (7 : Int), (7 : Int), (7 : Int), (7 : Int), (7 : Int), (7 : Int), (7 : Int), (7 : Int), (7 : Int), (7 : Int), (7 : Int), (7 : Int), (7 : Int), (7 : Int), (7 : Int), (7 : Int), (7 : Int), (7 : Int), (7 : Int), (7 : Int), (7 : Int), (7 : Int), (7 : Int), (7 : Int), (7 : Int), (7 : Int), (7 : Int), (7 : Int), (7 : Int), (7 : Int), (7 : Int), (7 : Int), (7 : Int), (7 : Int), (7 : Int), (7 : Int), (7 : Int), (7 : Int), (7 : Int), (7 : Int), (7 : Int), (7 : Int), (7 : Int), (7 : Int), (7 : Int), (7 : Int), (7 : Int), (7 : Int), (7 : Int), (7 : Int), (7 : Int), (7 : Int), (7 : Int), (7 : Int), (7 : Int), (7 : Int), (7 : Int), (7 : Int), (8 : Int), (8 : Int), (8 : Int), (8 : Int), (8 : Int), (8 : Int), (8 : Int), (8 : Int), (8 : Int), (8 : Int), (8 : Int), (8 : Int), (8 : Int), (8 : Int), (8 : Int), (8 : Int), (8 : Int), (8 : Int), (8 : Int), (8 : Int), (8 : Int), (8 : Int), (8 : Int), (8 : Int), (8 : Int), (8 : Int), (8 : Int), (8 : Int), (8 : Int), (8 : Int), (8 : Int), (8 : Int), (8 : Int), (8 : Int), (8 : Int), (8 : Int), (8 : Int), (8 : Int), (8 : Int), (8 : Int), (8 : Int), (8 : Int), (8 : Int), (8 : Int), (8 : Int), (8 : Int), (8 : Int), (8 : Int), (8 : Int), (8 : Int), (8 : Int), (8 : Int), (8 : Int), (8 : Int), (8 : Int), (8 : Int), (8 : Int), (8 : Int), (8 : Int), (8 : Int), (8 : Int), (8 : Int), (8 : Int), (8 : Int), (8 : Int), (8 : Int), (8 : Int), (8 : Int), (8 : Int), (8 : Int), (8 : Int), (8 : Int), (8 : Int), (8 : Int), (8 : Int), (8 : Int), (8 : Int), (8 : Int), (8 : Int), (8 : Int), (8 : Int), (8 : Int), (8 : Int), (8 : Int), (8 : Int), (8 : Int), (8 : Int), (8 : Int), (8 : Int), (8 : Int), (8 : Int), (8 : Int), (8 : Int), (8 : Int), (8 : Int), (8 : Int), (8 : Int), (8 : Int), (8 : Int), (8 : Int), (8 : Int), (8 : Int), (8 : Int), (8 : Int), (8 : Int), (8 : Int), (8 : Int), (8 : Int), (8 : Int), (8 : Int), (8 : Int), (8 : Int), (8 : Int), (8 : Int), (8 : Int), (8 : Int), (8 : Int), (8 : Int), (8 : Int), (8 : Int), (8 : Int), (8 : Int), (8 : Int), (8 : Int), (8 : Int), (8 : Int), (8 : Int), (8 : Int)] : List (Int)) (IntKind.wrap .u8 x9) with
            | none => none
            | some x10 => some ((IntKind.wrap .i64 ((IntKind.wrap .i64 ((IntKind.wrap .i64 ((0 : Int) + (16 : Int))) + (8 : Int))) + (IntKind.wrap .i64 x10))), ())
        | false => match idxR ([(0 : Int), (1 : Int), (2 : Int), (2 : Int), (3 : Int), (3 : Int), (3 : Int), (3 : Int), (4 : Int), (4 : Int), (4 : Int), (4 : Int), (4 : Int), (4 : Int), (4 : Int), (4 : Int), (5 : Int), (5 : Int), (5 : Int), (5 : Int), (5 : Int), (5 : Int), (5 : Int), (5 : Int), (5 : Int), (5 : Int), (5 : Int), (5 : Int), (5 : Int), (5 : Int), (5 : Int), (5 : Int), (6 : Int), (6 : Int), (6 : Int), (6 : Int), (6 : Int), (6 : Int), (6 : Int), (6 : Int), (6 : Int), (6 : Int), (6 : Int), (6 : Int), (6 : Int), (6 : Int), (6 : Int), (6 : Int), (6 : Int), (6 : Int), (6 : Int), (6 : Int), (6 : Int), (6 : Int), (6 : Int), (6 : Int), (6 : Int), (6 : Int), (6 : Int), (6 : Int), (6 : Int), (6 : Int), (6 : Int), (6 : Int), (7 : Int), (7 : Int), (7 : Int), (7 : Int), (7 : Int), (7 : Int), (7 : Int), (7 : Int), (7 : Int), (7 : Int), (7 : Int), (7 : Int), (7 : Int), (7 : Int), (7 : Int), (7 : Int), (7 : Int), (7 : Int), (7 : Int), (7 : Int), (7 : Int), (7 : Int), (7 : Int), (7 : Int), (7 : Int), (7 : Int), (7 : Int), (7 : Int), (7 : Int), (7 : Int), (7 : Int), (7 : Int), (7 : Int), (7 : Int), (7 : Int), (7 : Int), (7 : Int), (7 : Int), (7 : Int), (7 : Int), (7 : Int), (7 : Int), (7 : Int), (7 : Int), (7 : Int), (7 : Int), (7 : Int), (7 : Int), (7 : Int), (7 : Int), (7 : Int), (7 : Int), (7 : Int), (7 : Int), (7 : Int), (7 : Int), (7 : Int), (7 : Int), (7 : Int), (7 : Int), (7 : Int), (7 : Int), (7 : Int), (7 : Int), (8 : Int), (8 : Int), (8 : Int), (8 : Int), (8 : Int), (8 : Int), (8 : Int), (8 : Int), (8 : Int), (8 : Int), (8 : Int), (8 : Int), (8 : Int), (8 : Int), (8 : Int), (8 : Int), (8 : Int), (8 : Int), (8 : Int), (8 : Int), (8 : Int), (8 : Int), (8 : Int), (8 : Int), (8 : Int), (8 : Int), (8 : Int), (8 : Int), (8 : Int), (8 : Int), (8 : Int), (8 : Int), (8 : Int), (8 : Int), (8 : Int), (8 : Int), (8 : Int), (8 : Int), (8 : Int), (8 : Int), (8 : Int), (8 : Int), (8 : Int), (8 : Int), (8 : Int), (8 : Int), (8 : Int), (8 : Int), (8 : Int), (8 : Int), (8 : Int), (8 : Int), (8 : Int), (8 : Int), (8 : Int), (8 : Int), (8 : Int), (8 : Int), (8 : Int), (8 : Int), (8 : Int), (8 : Int), (8 : Int), (8 : Int), (8 : Int), (8 : Int), (8 : Int), (8 : Int), (8 : Int), (8 : Int), (8 : Int), (8 : Int), (8 : Int), (8 : Int), (8 : Int), (8 : Int), (8 : Int), (8 : Int), (8 : Int), (8 : Int), (8 : Int), (8 : Int), (8 : Int), (8 : Int), (8 : Int), (8 : Int), (8 : Int), (8 : Int), (8 : Int), (8 : Int), (8 : Int), (8 : Int), (8 : Int), (8 : Int), (8 : Int), (8 : Int), (8 : Int), (8 : Int), (8 : Int), (8 : Int), (8 : Int), (8 : Int), (8 : Int), (8 : Int), (8 : Int), (8 : Int), (8 : Int), (8 : Int), (8 : Int), (8 : Int), (8 : Int), (8 : Int), (8 : Int), (8 : Int), (8 : Int), (8 : Int), (8 : Int), (8 : Int), (8 : Int), (8 : Int), (8 : Int), (8 : Int), (8 : Int), (8 : Int), (8 : Int), (8 : Int), (8 : Int), (8 : Int)] : List (Int)) (IntKind.wrap .u8 x8) with
          | none => none
          | some x11 => some ((IntKind.wrap .i64 ((IntKind.wrap .i64 ((0 : Int) + (16 : Int))) + (IntKind.wrap .i64 x11))), ())
    | false => match (ileR (256 : Int) a0) with
      | true => match shrR .u64 a0 (8 : Int) with
        | none => none
        | some x12 => match idxR ([(0 : Int), (1 : Int), (2 : Int), (2 : Int), (3 : Int), (3 : Int), (3 : Int), (3 : Int), (4 : Int), (4 : Int), (4 : Int), (4 : Int), (4 : Int), (4 : Int), (4 : Int), (4 : Int), (5 : Int), (5 : Int), (5 : Int), (5 : Int), (5 : Int), (5 : Int), (5 : Int), (5 : Int), (5 : Int), (5 : Int), (5 : Int), (5 : Int), (5 : Int), (5 : Int), (5 : Int), (5 : Int), (6 : Int), (6 : Int), (6 : Int), (6 : Int), (6 : Int), (6 : Int), (6 : Int), (6 : Int), (6 : Int), (6 : Int), (6 : Int), (6 : Int), (6 : Int), (6 : Int), (6 : Int), (6 : Int), (6 : Int), (6 : Int), (6 : Int), (6 : Int), (6 : Int), (6 : Int), (6 : Int), (6 : Int), (6 : Int), (6 : Int), (6 : Int), (6 : Int), (6 : Int), (6 : Int), (6 : Int), (6 : Int), (7 : Int), (7 : Int), (7 : Int), (7 : Int), (7 : Int), (7 : Int), (7 : Int), (7 : Int), (7 : Int), (7 : Int), (7 : Int), (7 : Int), (7 : Int), (7 : Int), (7 : Int), (7 : Int), (7 : Int), (7 : Int), (7 : Int), (7 : Int), (7 : Int), (7 : Int), (7 : Int), (7 : Int), (7 : Int), (7 : Int), (7 : Int), (7 : Int), (7 : Int), (7 : Int), (7 : Int), (7 : Int), (7 : Int), (7 : Int), (7 : Int), (7 : Int), (7 : Int), (7 : Int), (7 : Int), (7 : Int), (7 : Int), (7 : Int), (7 : Int), (7 : Int), (7 : Int), (7 : Int), (7 : Int), (7 : Int), (7 : Int), (7 : Int), (7 : Int), (7 : Int), (7 : Int), (7 : Int), (7 : Int), (7 : Int), (7 : Int), (7 : Int), (7 : Int), (7 : Int), (7 : Int), (7 : Int), (7 : Int), (7 : Int), (8 : Int), (8 : Int), (8 : Int), (8 : Int), (8 : Int), (8 : Int), (8 : Int), (8 : Int), (8 : Int), (8 : Int), (8 : Int), (8 : Int), (8 : Int), (8 : Int), (8 : Int), (8 : Int), (8 : Int), (8 : Int), (8 : Int), (8 : Int), (8 : Int), (8 : Int), (8 : Int), (8 : Int), (8 : Int), (8 : Int), (8 : Int), (8 : Int), (8 : Int), (8 : Int), (8 : Int), (8 : Int), (8 : Int), (8 : Int), (8 : Int), (8 : Int), (8 : Int), (8 : Int), (8 : Int), (8 : Int), (8 : Int), (8 : Int), (8 : Int), (8 : Int), (8 : Int), (8 : Int), (8 : Int), (8 : Int), (8 : Int), (8 : Int), (8 : Int), (8 : Int), (8 : Int), (8 : Int), (8 : Int), (8 : Int), (8 : Int), (8 : Int), (8 : Int), (8 : Int), (8 : Int), (8 : Int), (8 : Int), (8 : Int), (8 : Int), (8 : Int), (8 : Int), (8 : Int), (8 : Int), (8 : Int), (8 : Int), (8 : Int), (8 : Int), (8 : Int), (8 : Int), (8 : Int), (8 : Int), (8 : Int), (8 : Int), (8 : Int), (8 : Int), (8 : Int), (8 : Int), (8 : Int), (8 : Int), (8 : Int), (8 : Int), (8 : Int), (8 : Int), (8 : Int), (8 : Int), (8 : Int), (8 : Int), (8 : Int), (8 : Int), (8 : Int), (8 : Int), (8 : Int), (8 : Int), (8 : Int), (8 : Int), (8 : Int), (8 : Int), (8 : Int), (8 : Int), (8 : Int), (8 : Int), (8 : Int), (8 : Int), (8 : Int), (8 : Int), (8 : Int), (8 : Int), (8 : Int), (8 : Int), (8 : Int), (8 : Int), (8 : Int), (8 : Int), (8 : Int), (8 : Int), (8 : Int), (8 : Int), (8 : Int), (8 : Int), (8 : Int), (8 : Int), (8 : Int)] : List (Int)) (IntKind.wrap .u8 x12) with
          | none => none
          | some x13 => some ((IntKind.wrap .i64 ((IntKind.wrap .i64 ((0 : Int) + (8 : Int))) + (IntKind.wrap .i64 x13))), ())
      | false => match idxR ([(0 : Int), (1 : Int), (2 : Int), (2 : Int), (3 : Int), (3 : Int), (3 : Int), (3 : Int), (4 : Int), (4 : Int), (4 : Int), (4 : Int), (4 : Int), (4 : Int), (4 : Int), (4 : Int), (5 : Int), (5 : Int), (5 : Int), (5 : Int), (5 : Int), (5 : Int), (5 : Int), (5 : Int), (5 : Int), (5 : Int), (5 : Int), (5 : Int), (5 : Int), (5 : Int), (5 : Int), (5 : Int), (6 : Int), (6 : Int), (6 : Int), (6 : Int), (6 : Int), (6 : Int), (6 : Int), (6 : Int), (6 : Int), (6 : Int), (6 : Int), (6 : Int), (6 : Int), (6 : Int), (6 : Int), (6 : Int), (6 : Int), (6 : Int), (6 : Int), (6 : Int), (6 : Int), (6 : Int), (6 : Int), (6 : Int), (6 : Int), (6 : Int), (6 : Int), (6 : Int), (6 : Int), (6 : Int), (6 : Int), (6 : Int), (7 : Int), (7 : Int), (7 : Int), (7 : Int), (7 : Int), (7 : Int), (7 : Int), (7 : Int), (7 : Int), (7 : Int), (7 : Int), (7 : Int), (7 : Int), (7 : Int), (7 : Int), (7 : Int), (7 : Int), (7 : Int), (7 : Int), (7 : Int), (7 : Int), (7 : Int), (7 : Int), (7 : Int), (7 : Int), (7 : Int), (7 : Int), (7 : Int), (7 : Int), (7 : Int), (7 : Int), (7 : Int), (7 : Int), (7 : Int), (7 : Int), (7 : Int), (7 : Int), (7 : Int), (7 : Int), (7 : Int), (7 : Int), (7 : Int), (7 : Int), (7 : Int), (7 : Int), (7 : Int), (7 : Int), (7 : Int), (7 : Int), (7 : Int), (7 : Int), (7 : Int), (7 : Int), (7 : Int), (7 : Int), (7 : Int), (7 : Int), (7 : Int), (7 : Int), (7 : Int), (7 : Int), (7 : Int), (7 : Int), (7 : Int), (8 : Int), (8 : Int), (8 : Int), (8 : Int), (8 : Int), (8 : Int), (8 : Int), (8 : Int), (8 : Int), (8 : Int), (8 : Int), (8 : Int), (8 : Int), (8 : Int), (8 : Int), (8 : Int), (8 : Int), (8 : Int), (8 : Int), (8 : Int), (8 : Int), (8 : Int), (8 : Int), (8 : Int), (8 : Int), (8 : Int), (8 : Int), (8 : Int), (8 : Int), (8 : Int), (8 : Int), (8 : Int), (8 : Int), (8 : Int), (8 : Int), (8 : Int), (8 : Int), (8 : Int), (8 : Int), (8 : Int), (8 : Int), (8 : Int), (8 : Int), (8 : Int), (8 : Int), (8 : Int), (8 : Int), (8 : Int), (8 : Int), (8 : Int), (8 : Int), (8 : Int), (8 : Int), (8 : Int), (8 : Int), (8 : Int), (8 : Int), (8 : Int), (8 : Int), (8 : Int), (8 : Int), (8 : Int), (8 : Int), (8 : Int), (8 : Int), (8 : Int), (8 : Int), (8 : Int), (8 : Int), (8 : Int), (8 : Int), (8 : Int), (8 : Int), (8 : Int), (8 : Int), (8 : Int), (8 : Int), (8 : Int), (8 : Int), (8 : Int), (8 : Int), (8 : Int), (8 : Int), (8 : Int), (8 : Int), (8 : Int), (8 : Int), (8 : Int), (8 : Int), (8 : Int), (8 : Int), (8 : Int), (8 : Int), (8 : Int), (8 : Int), (8 : Int), (8 : Int), (8 : Int), (8 : Int), (8 : Int), (8 : Int), (8 : Int), (8 : Int), (8 : Int), (8 : Int), (8 : Int), (8 : Int), (8 : Int), (8 : Int), (8 : Int), (8 : Int), (8 : Int), (8 : Int), (8 : Int), (8 : Int), (8 : Int), (8 : Int), (8 : Int), (8 : Int), (8 : Int), (8 : Int), (8 : Int), (8 : Int), (8 : Int), (8 : Int), (8 : Int), (8 : Int), (8 : Int)] : List (Int)) (IntKind.wrap .u8 a0) with
        | none => none
        | some x14 => some ((IntKind.wrap .i64 ((0 : Int) + (IntKind.wrap .i64 x14))), ())

theorem len64_d_ceq : len64_d = len64_dC := by
  funext v
  simp only [len64_d, len64_dC, idx_eq, shr_eq, ile_eqR] <;> rfl

def len64C (v : denL (leaves len64_i)) : Option (denL (leaves len64_o)) := len64_dC v

theorem len64_ceq : len64 = len64C := by
  funext v
  rw [len64_eq, len64_d_ceq]; rfl


-- math/bits.Len
abbrev bitsLen_i : Items := [(.tmp 0, .dat (.int .u64))]
abbrev bitsLen_o : Items := [(.tmp 0, .dat (.int .i64))]
abbrev bitsLen_r : List RS := [.one]
def bitsLen_d : (Int × Unit) → Option ((Int × Unit)) := fun (a0, _) =>
  match len64 (a0, ()) with
  | none => none
  | some (y0, _) => some (y0, ())
def bitsLen (v : (Int × Unit)) : Option ((Int × Unit)) := lock (bitsLen_d v)
theorem bitsLen_eq (v : (Int × Unit)) : bitsLen v = bitsLen_d v := lock_eq _
def bitsLen_dC : (Int × Unit) → Option ((Int × Unit)) := fun (a0, _) =>
  match len64C (a0, ()) with
  | none => none
  | some (y0, _) => some (y0, ())

theorem bitsLen_d_ceq : bitsLen_d = bitsLen_dC := by
  funext v
  simp only [bitsLen_d, bitsLen_dC, len64_ceq] <;> rfl

def bitsLenC (v : denL (leaves bitsLen_i)) : Option (denL (leaves bitsLen_o)) := bitsLen_dC v

theorem bitsLen_ceq : bitsLen = bitsLenC := by
  funext v
  rw [bitsLen_eq, bitsLen_d_ceq]; rfl


-- (*slices.xorshift).Next
abbrev xorNext_i : Items := [(.tmp 0, .box 1), (.cell 0 0, .dat (.int .u64))]
abbrev xorNext_o : Items := [(.obj 0, .box 1), (.cell 0 0, .dat (.int .u64)), (.tmp 0, .dat (.int .u64))]
abbrev xorNext_r : List RS := [.one]
def xorNext_d : (Int × Unit) → Option ((Int × Int × Unit)) := fun (a0, _) =>
  match shl? .u64 a0 (13 : Int) with
  | none => none
  | some x0 => match shr? .u64 (IntKind.wrap .u64 ((BitVec.ofInt (IntKind.bits .u64) a0 ^^^ BitVec.ofInt (IntKind.bits .u64) x0).toNat)) (7 : Int) with
    | none => none
    | some x1 => match shl? .u64 (IntKind.wrap .u64 ((BitVec.ofInt (IntKind.bits .u64) (IntKind.wrap .u64 ((BitVec.ofInt (IntKind.bits .u64) a0 ^^^ BitVec.ofInt (IntKind.bits .u64) x0).toNat)) ^^^ BitVec.ofInt (IntKind.bits .u64) x1).toNat)) (17 : Int) with
      | none => none
      | some x2 => some ((IntKind.wrap .u64 ((BitVec.ofInt (IntKind.bits .u64) (IntKind.wrap .u64 ((BitVec.ofInt (IntKind.bits .u64) (IntKind.wrap .u64 ((BitVec.ofInt (IntKind.bits .u64) a0 ^^^ BitVec.ofInt (IntKind.bits .u64) x0).toNat)) ^^^ BitVec.ofInt (IntKind.bits .u64) x1).toNat)) ^^^ BitVec.ofInt (IntKind.bits .u64) x2).toNat)), (IntKind.wrap .u64 ((BitVec.ofInt (IntKind.bits .u64) (IntKind.wrap .u64 ((BitVec.ofInt (IntKind.bits .u64) (IntKind.wrap .u64 ((BitVec.ofInt (IntKind.bits .u64) a0 ^^^ BitVec.ofInt (IntKind.bits .u64) x0).toNat)) ^^^ BitVec.ofInt (IntKind.bits .u64) x1).toNat)) ^^^ BitVec.ofInt (IntKind.bits .u64) x2).toNat)), ())
def xorNext (v : (Int × Unit)) : Option ((Int × Int × Unit)) := lock (xorNext_d v)
theorem xorNext_eq (v : (Int × Unit)) : xorNext v = xorNext_d v := lock_eq _
def xorNext_dC : (Int × Unit) → Option ((Int × Int × Unit)) := fun (a0, _) =>
  match shlR .u64 a0 (13 : Int) with
  | none => none
  | some x0 => match shrR .u64 (IntKind.wrap .u64 ((BitVec.ofInt (IntKind.bits .u64) a0 ^^^ BitVec.ofInt (IntKind.bits .u64) x0).toNat)) (7 : Int) with
    | none => none
    | some x1 => match shlR .u64 (IntKind.wrap .u64 ((BitVec.ofInt (IntKind.bits .u64) (IntKind.wrap .u64 ((BitVec.ofInt (IntKind.bits .u64) a0 ^^^ BitVec.ofInt (IntKind.bits .u64) x0).toNat)) ^^^ BitVec.ofInt (IntKind.bits .u64) x1).toNat)) (17 : Int) with
      | none => none
      | some x2 => some ((IntKind.wrap .u64 ((BitVec.ofInt (IntKind.bits .u64) (IntKind.wrap .u64 ((BitVec.ofInt (IntKind.bits .u64) (IntKind.wrap .u64 ((BitVec.ofInt (IntKind.bits .u64) a0 ^^^ BitVec.ofInt (IntKind.bits .u64) x0).toNat)) ^^^ BitVec.ofInt (IntKind.bits .u64) x1).toNat)) ^^^ BitVec.ofInt (IntKind.bits .u64) x2).toNat)), (IntKind.wrap .u64 ((BitVec.ofInt (IntKind.bits .u64) (IntKind.wrap .u64 ((BitVec.ofInt (IntKind.bits .u64) (IntKind.wrap .u64 ((BitVec.ofInt (IntKind.bits .u64) a0 ^^^ BitVec.ofInt (IntKind.bits .u64) x0).toNat)) ^^^ BitVec.ofInt (IntKind.bits .u64) x1).toNat)) ^^^ BitVec.ofInt (IntKind.bits .u64) x2).toNat)), ())

theorem xorNext_d_ceq : xorNext_d = xorNext_dC := by
  funext v
  simp only [xorNext_d, xorNext_dC, shl_eq, shr_eq] <;> rfl

def xorNextC (v : denL (leaves xorNext_i)) : Option (denL (leaves xorNext_o)) := xorNext_dC v

theorem xorNext_ceq : xorNext = xorNextC := by
  funext v
  rw [xorNext_eq, xorNext_d_ceq]; rfl


-- slices.insertionSortOrdered[uint32]
abbrev insW_i : Items := [(.tmp 0, .own 34 (.int .u32)), (.tmp 1, .dat (.int .i64)), (.tmp 2, .dat (.int .i64))]
abbrev insW_o : Items := [(.obj 0, .own 34 (.int .u32))]
abbrev insW_r : List RS := []
abbrev insW_i1 : Items := [(.obj 0, .own 34 (.int .u32)), (.tmp 0, .own' 0), (.tmp 1, .dat (.int .i64)), (.tmp 2, .dat (.int .i64)), (.tmp 6, .dat (.int .i64)), (.tmp 7, .dat (.int .i64))]
abbrev insW_o1 : Outs := [(.exit 2, [(.obj 0, .own 34 (.int .u32)), (.tmp 0, .own' 0), (.tmp 1, .dat (.int .i64)), (.tmp 2, .dat (.int .i64)), (.tmp 6, .dat (.int .i64))])]
def insW_s1 : (List Int × Int × Int × Int × Int × Unit) → Option ((List Int × Int × Int × Int × Int × Unit) ⊕ (List Int × Int × Int × Int × Unit) ⊕ Unit) := fun (a0, a1, a2, a3, a4, _) =>
  match (ilt a1 a4) with
  | true => match idx a0 a4 with
    | none => none
    | some x0 => match idx a0 (IntKind.wrap .i64 (a4 - (1 : Int))) with
      | none => none
      | some x1 => match lessW ((dget a0 (dnat a4) (0 : Int)), (dget a0 (dnat (IntKind.wrap .i64 (a4 - (1 : Int)))) (0 : Int)), ()) with
        | none => none
        | some (y2, _) => match y2 with
          | true => match idx a0 (IntKind.wrap .i64 (a4 - (1 : Int))) with
            | none => none
            | some x3 => match idx a0 a4 with
              | none => none
              | some x4 => match idx a0 a4 with
                | none => none
                | some x5 => match idx (dset a0 (dnat a4) (dget a0 (dnat (IntKind.wrap .i64 (a4 - (1 : Int)))) (0 : Int))) (IntKind.wrap .i64 (a4 - (1 : Int))) with
                  | none => none
                  | some x6 => some (.inl ((dset (dset a0 (dnat a4) (dget a0 (dnat (IntKind.wrap .i64 (a4 - (1 : Int)))) (0 : Int))) (dnat (IntKind.wrap .i64 (a4 - (1 : Int)))) (dget a0 (dnat a4) (0 : Int))), a1, a2, a3, (IntKind.wrap .i64 (a4 - (1 : Int))), ()))
          | false => some (.inr (.inl (a0, a1, a2, a3, ())))
  | false => some (.inr (.inl (a0, a1, a2, a3, ())))
abbrev insW_i0 : Items := [(.obj 0, .own 34 (.int .u32)), (.tmp 0, .own' 0), (.tmp 1, .dat (.int .i64)), (.tmp 2, .dat (.int .i64)), (.tmp 6, .dat (.int .i64))]
abbrev insW_o0 : Outs := [(.exit 0, [(.obj 0, .own 34 (.int .u32))])]
def insW_s0 : (List Int × Int × Int × Int × Unit) → Option ((List Int × Int × Int × Int × Unit) ⊕ (List Int × Unit) ⊕ Unit) := fun (a0, a1, a2, a3, _) =>
  match (ilt a3 a2) with
  | true => match iterL insW_s1 many (a0, a1, a2, a3, a3, ()) with
    | none => none
    | some r => match r with
      | .inl (o0, o1, o2, o3, _) => some (.inl (o0, o1, o2, (IntKind.wrap .i64 (o3 + (1 : Int))), ()))
      | .inr _ => none
  | false => some (.inr (.inl (a0, ())))
def insW_d : (List Int × Int × Int × Unit) → Option ((List Int × Unit)) := fun (a0, a1, a2, _) =>
  match iterL insW_s0 many (a0, a1, a2, (IntKind.wrap .i64 (a1 + (1 : Int))), ()) with
  | none => none
  | some r => match r with
    | .inl (o0, _) => some (o0, ())
    | .inr _ => none
def insW (v : (List Int × Int × Int × Unit)) : Option ((List Int × Unit)) := lock (insW_d v)
theorem insW_eq (v : (List Int × Int × Int × Unit)) : insW v = insW_d v := lock_eq _
def insW_s1C : (List Int × Int × Int × Int × Int × Unit) → Option ((List Int × Int × Int × Int × Int × Unit) ⊕ (List Int × Int × Int × Int × Unit) ⊕ Unit) := fun (a0, a1, a2, a3, a4, _) =>
  match (iltR a1 a4) with
  | true => match idxR a0 a4 with
    | none => none
    | some x0 => match idxR a0 (IntKind.wrap .i64 (a4 - (1 : Int))) with
      | none => none
      | some x1 => match lessWC ((dget a0 (dnat a4) (0 : Int)), (dget a0 (dnat (IntKind.wrap .i64 (a4 - (1 : Int)))) (0 : Int)), ()) with
        | none => none
        | some (y2, _) => match y2 with
          | true => match idxR a0 (IntKind.wrap .i64 (a4 - (1 : Int))) with
            | none => none
            | some x3 => match idxR a0 a4 with
              | none => none
              | some x4 => match idxR a0 a4 with
                | none => none
                | some x5 => match idxR (dset a0 (dnat a4) (dget a0 (dnat (IntKind.wrap .i64 (a4 - (1 : Int)))) (0 : Int))) (IntKind.wrap .i64 (a4 - (1 : Int))) with
                  | none => none
                  | some x6 => some (.inl ((dset (dset a0 (dnat a4) (dget a0 (dnat (IntKind.wrap .i64 (a4 - (1 : Int)))) (0 : Int))) (dnat (IntKind.wrap .i64 (a4 - (1 : Int)))) (dget a0 (dnat a4) (0 : Int))), a1, a2, a3, (IntKind.wrap .i64 (a4 - (1 : Int))), ()))
          | false => some (.inr (.inl (a0, a1, a2, a3, ())))
  | false => some (.inr (.inl (a0, a1, a2, a3, ())))

theorem insW_s1_ceq : insW_s1 = insW_s1C := by
  funext v
  simp only [insW_s1, insW_s1C, idx_eq, ilt_eqR, lessW_ceq] <;> rfl

def insW_s0C : (List Int × Int × Int × Int × Unit) → Option ((List Int × Int × Int × Int × Unit) ⊕ (List Int × Unit) ⊕ Unit) := fun (a0, a1, a2, a3, _) =>
  match (iltR a3 a2) with
  | true => match iterO insW_s1C many (a0, a1, a2, a3, a3, ()) with
    | none => none
    | some r => match r with
      | .inl (o0, o1, o2, o3, _) => some (.inl (o0, o1, o2, (IntKind.wrap .i64 (o3 + (1 : Int))), ()))
      | .inr _ => none
  | false => some (.inr (.inl (a0, ())))

theorem insW_s0_ceq : insW_s0 = insW_s0C := by
  funext v
  simp only [insW_s0, insW_s0C, iterL_eq, ilt_eqR, insW_s1_ceq] <;> rfl

def insW_dC : (List Int × Int × Int × Unit) → Option ((List Int × Unit)) := fun (a0, a1, a2, _) =>
  match iterO insW_s0C many (a0, a1, a2, (IntKind.wrap .i64 (a1 + (1 : Int))), ()) with
  | none => none
  | some r => match r with
    | .inl (o0, _) => some (o0, ())
    | .inr _ => none

theorem insW_d_ceq : insW_d = insW_dC := by
  funext v
  simp only [insW_d, insW_dC, iterL_eq, insW_s0_ceq] <;> rfl

def insWC (v : denL (leaves insW_i)) : Option (denL (leaves insW_o)) := insW_dC v

theorem insW_ceq : insW = insWC := by
  funext v
  rw [insW_eq, insW_d_ceq]; rfl


-- slices.siftDownOrdered[uint32]
abbrev siftW_i : Items := [(.tmp 0, .own 34 (.int .u32)), (.tmp 1, .dat (.int .i64)), (.tmp 2, .dat (.int .i64)), (.tmp 3, .dat (.int .i64))]
abbrev siftW_o : Items := [(.obj 0, .own 34 (.int .u32))]
abbrev siftW_r : List RS := []
abbrev siftW_i0 : Items := [(.obj 0, .own 34 (.int .u32)), (.tmp 0, .own' 0), (.tmp 2, .dat (.int .i64)), (.tmp 3, .dat (.int .i64)), (.tmp 8, .dat (.int .i64))]
abbrev siftW_o0 : Outs := [(.exit 0, [(.obj 0, .own 34 (.int .u32))]), (.ret, [(.obj 0, .own 34 (.int .u32))])]
def siftW_s0 : (List Int × Int × Int × Int × Unit) → Option ((List Int × Int × Int × Int × Unit) ⊕ (List Int × Unit) ⊕ (List Int × Unit) ⊕ Unit) := fun (a0, a1, a2, a3, _) =>
  match (ile a1 (IntKind.wrap .i64 ((IntKind.wrap .i64 ((2 : Int) * a3)) + (1 : Int)))) with
  | true => some (.inr (.inl (a0, ())))
  | false => match (ilt (IntKind.wrap .i64 ((IntKind.wrap .i64 ((IntKind.wrap .i64 ((2 : Int) * a3)) + (1 : Int))) + (1 : Int))) a1) with
    | true => match idx a0 (IntKind.wrap .i64 (a2 + (IntKind.wrap .i64 ((IntKind.wrap .i64 ((2 : Int) * a3)) + (1 : Int))))) with
      | none => none
      | some x0 => match idx a0 (IntKind.wrap .i64 ((IntKind.wrap .i64 (a2 + (IntKind.wrap .i64 ((IntKind.wrap .i64 ((2 : Int) * a3)) + (1 : Int))))) + (1 : Int))) with
        | none => none
        | some x1 => match lessW ((dget a0 (dnat (IntKind.wrap .i64 (a2 + (IntKind.wrap .i64 ((IntKind.wrap .i64 ((2 : Int) * a3)) + (1 : Int)))))) (0 : Int)), (dget a0 (dnat (IntKind.wrap .i64 ((IntKind.wrap .i64 (a2 + (IntKind.wrap .i64 ((IntKind.wrap .i64 ((2 : Int) * a3)) + (1 : Int))))) + (1 : Int)))) (0 : Int)), ()) with
          | none => none
          | some (y2, _) => match y2 with
            | true => match idx a0 (IntKind.wrap .i64 (a2 + a3)) with
              | none => none
              | some x3 => match idx a0 (IntKind.wrap .i64 (a2 + (IntKind.wrap .i64 ((IntKind.wrap .i64 ((IntKind.wrap .i64 ((2 : Int) * a3)) + (1 : Int))) + (1 : Int))))) with
                | none => none
                | some x4 => match lessW ((dget a0 (dnat (IntKind.wrap .i64 (a2 + a3))) (0 : Int)), (dget a0 (dnat (IntKind.wrap .i64 (a2 + (IntKind.wrap .i64 ((IntKind.wrap .i64 ((IntKind.wrap .i64 ((2 : Int) * a3)) + (1 : Int))) + (1 : Int)))))) (0 : Int)), ()) with
                  | none => none
                  | some (y5, _) => match (!y5) with
                    | true => some (.inr (.inr (.inl (a0, ()))))
                    | false => match idx a0 (IntKind.wrap .i64 (a2 + (IntKind.wrap .i64 ((IntKind.wrap .i64 ((IntKind.wrap .i64 ((2 : Int) * a3)) + (1 : Int))) + (1 : Int))))) with
                      | none => none
                      | some x6 => match idx a0 (IntKind.wrap .i64 (a2 + a3)) with
                        | none => none
                        | some x7 => match idx a0 (IntKind.wrap .i64 (a2 + a3)) with
                          | none => none
                          | some x8 => match idx (dset a0 (dnat (IntKind.wrap .i64 (a2 + a3))) (dget a0 (dnat (IntKind.wrap .i64 (a2 + (IntKind.wrap .i64 ((IntKind.wrap .i64 ((IntKind.wrap .i64 ((2 : Int) * a3)) + (1 : Int))) + (1 : Int)))))) (0 : Int))) (IntKind.wrap .i64 (a2 + (IntKind.wrap .i64 ((IntKind.wrap .i64 ((IntKind.wrap .i64 ((2 : Int) * a3)) + (1 : Int))) + (1 : Int))))) with
                            | none => none
                            | some x9 => some (.inl ((dset (dset a0 (dnat (IntKind.wrap .i64 (a2 + a3))) (dget a0 (dnat (IntKind.wrap .i64 (a2 + (IntKind.wrap .i64 ((IntKind.wrap .i64 ((IntKind.wrap .i64 ((2 : Int) * a3)) + (1 : Int))) + (1 : Int)))))) (0 : Int))) (dnat (IntKind.wrap .i64 (a2 + (IntKind.wrap .i64 ((IntKind.wrap .i64 ((IntKind.wrap .i64 ((2 : Int) * a3)) + (1 : Int))) + (1 : Int)))))) (dget a0 (dnat (IntKind.wrap .i64 (a2 + a3))) (0 : Int))), a1, a2, (IntKind.wrap .i64 ((IntKind.wrap .i64 ((IntKind.wrap .i64 ((2 : Int) * a3)) + (1 : Int))) + (1 : Int))), ()))
            | false => match idx a0 (IntKind.wrap .i64 (a2 + a3)) with
              | none => none
              | some x10 => match idx a0 (IntKind.wrap .i64 (a2 + (IntKind.wrap .i64 ((IntKind.wrap .i64 ((2 : Int) * a3)) + (1 : Int))))) with
                | none => none
                | some x11 => match lessW ((dget a0 (dnat (IntKind.wrap .i64 (a2 + a3))) (0 : Int)), (dget a0 (dnat (IntKind.wrap .i64 (a2 + (IntKind.wrap .i64 ((IntKind.wrap .i64 ((2 : Int) * a3)) + (1 : Int)))))) (0 : Int)), ()) with
                  | none => none
                  | some (y12, _) => match (!y12) with
                    | true => some (.inr (.inr (.inl (a0, ()))))
                    | false => match idx a0 (IntKind.wrap .i64 (a2 + (IntKind.wrap .i64 ((IntKind.wrap .i64 ((2 : Int) * a3)) + (1 : Int))))) with
                      | none => none
                      | some x13 => match idx a0 (IntKind.wrap .i64 (a2 + a3)) with
                        | none => none
                        | some x14 => match idx a0 (IntKind.wrap .i64 (a2 + a3)) with
                          | none => none
                          | some x15 => match idx (dset a0 (dnat (IntKind.wrap .i64 (a2 + a3))) (dget a0 (dnat (IntKind.wrap .i64 (a2 + (IntKind.wrap .i64 ((IntKind.wrap .i64 ((2 : Int) * a3)) + (1 : Int)))))) (0 : Int))) (IntKind.wrap .i64 (a2 + (IntKind.wrap .i64 ((IntKind.wrap .i64 ((2 : Int) * a3)) + (1 : Int))))) with
                            | none => none
                            | some x16 => some (.inl ((dset (dset a0 (dnat (IntKind.wrap .i64 (a2 + a3))) (dget a0 (dnat (IntKind.wrap .i64 (a2 + (IntKind.wrap .i64 ((IntKind.wrap .i64 ((2 : Int) * a3)) + (1 : Int)))))) (0 : Int))) (dnat (IntKind.wrap .i64 (a2 + (IntKind.wrap .i64 ((IntKind.wrap .i64 ((2 : Int) * a3)) + (1 : Int)))))) (dget a0 (dnat (IntKind.wrap .i64 (a2 + a3))) (0 : Int))), a1, a2, (IntKind.wrap .i64 ((IntKind.wrap .i64 ((2 : Int) * a3)) + (1 : Int))), ()))
    | false => match idx a0 (IntKind.wrap .i64 (a2 + a3)) with
      | none => none
      | some x17 => match idx a0 (IntKind.wrap .i64 (a2 + (IntKind.wrap .i64 ((IntKind.wrap .i64 ((2 : Int) * a3)) + (1 : Int))))) with
        | none => none
        | some x18 => match lessW ((dget a0 (dnat (IntKind.wrap .i64 (a2 + a3))) (0 : Int)), (dget a0 (dnat (IntKind.wrap .i64 (a2 + (IntKind.wrap .i64 ((IntKind.wrap .i64 ((2 : Int) * a3)) + (1 : Int)))))) (0 : Int)), ()) with
          | none => none
          | some (y19, _) => match (!y19) with
            | true => some (.inr (.inr (.inl (a0, ()))))
            | false => match idx a0 (IntKind.wrap .i64 (a2 + (IntKind.wrap .i64 ((IntKind.wrap .i64 ((2 : Int) * a3)) + (1 : Int))))) with
              | none => none
              | some x20 => match idx a0 (IntKind.wrap .i64 (a2 + a3)) with
                | none => none
                | some x21 => match idx a0 (IntKind.wrap .i64 (a2 + a3)) with
                  | none => none
                  | some x22 => match idx (dset a0 (dnat (IntKind.wrap .i64 (a2 + a3))) (dget a0 (dnat (IntKind.wrap .i64 (a2 + (IntKind.wrap .i64 ((IntKind.wrap .i64 ((2 : Int) * a3)) + (1 : Int)))))) (0 : Int))) (IntKind.wrap .i64 (a2 + (IntKind.wrap .i64 ((IntKind.wrap .i64 ((2 : Int) * a3)) + (1 : Int))))) with
                    | none => none
                    | some x23 => some (.inl ((dset (dset a0 (dnat (IntKind.wrap .i64 (a2 + a3))) (dget a0 (dnat (IntKind.wrap .i64 (a2 + (IntKind.wrap .i64 ((IntKind.wrap .i64 ((2 : Int) * a3)) + (1 : Int)))))) (0 : Int))) (dnat (IntKind.wrap .i64 (a2 + (IntKind.wrap .i64 ((IntKind.wrap .i64 ((2 : Int) * a3)) + (1 : Int)))))) (dget a0 (dnat (IntKind.wrap .i64 (a2 + a3))) (0 : Int))), a1, a2, (IntKind.wrap .i64 ((IntKind.wrap .i64 ((2 : Int) * a3)) + (1 : Int))), ()))
def siftW_d : (List Int × Int × Int × Int × Unit) → Option ((List Int × Unit)) := fun (a0, a1, a2, a3, _) =>
  match iterL siftW_s0 many (a0, a2, a3, a1, ()) with
  | none => none
  | some r => match r with
    | .inl (o0, _) => some (o0, ())
    | .inr r => match r with
      | .inl (o1, _) => some (o1, ())
      | .inr _ => none
def siftW (v : (List Int × Int × Int × Int × Unit)) : Option ((List Int × Unit)) := lock (siftW_d v)
theorem siftW_eq (v : (List Int × Int × Int × Int × Unit)) : siftW v = siftW_d v := lock_eq _
def siftW_s0C : (List Int × Int × Int × Int × Unit) → Option ((List Int × Int × Int × Int × Unit) ⊕ (List Int × Unit) ⊕ (List Int × Unit) ⊕ Unit) := fun (a0, a1, a2, a3, _) =>
  match (ileR a1 (IntKind.wrap .i64 ((IntKind.wrap .i64 ((2 : Int) * a3)) + (1 : Int)))) with
  | true => some (.inr (.inl (a0, ())))
  | false => match (iltR (IntKind.wrap .i64 ((IntKind.wrap .i64 ((IntKind.wrap .i64 ((2 : Int) * a3)) + (1 : Int))) + (1 : Int))) a1) with
    | true => match idxR a0 (IntKind.wrap .i64 (a2 + (IntKind.wrap .i64 ((IntKind.wrap .i64 ((2 : Int) * a3)) + (1 : Int))))) with
      | none => none
      | some x0 => match idxR a0 (IntKind.wrap .i64 ((IntKind.wrap .i64 (a2 + (IntKind.wrap .i64 ((IntKind.wrap .i64 ((2 : Int) * a3)) + (1 : Int))))) + (1 : Int))) with
        | none => none
        | some x1 => match lessWC ((dget a0 (dnat (IntKind.wrap .i64 (a2 + (IntKind.wrap .i64 ((IntKind.wrap .i64 ((2 : Int) * a3)) + (1 : Int)))))) (0 : Int)), (dget a0 (dnat (IntKind.wrap .i64 ((IntKind.wrap .i64 (a2 + (IntKind.wrap .i64 ((IntKind.wrap .i64 ((2 : Int) * a3)) + (1 : Int))))) + (1 : Int)))) (0 : Int)), ()) with
          | none => none
          | some (y2, _) => match y2 with
            | true => match idxR a0 (IntKind.wrap .i64 (a2 + a3)) with
              | none => none
              | some x3 => match idxR a0 (IntKind.wrap .i64 (a2 + (IntKind.wrap .i64 ((IntKind.wrap .i64 ((IntKind.wrap .i64 ((2 : Int) * a3)) + (1 : Int))) + (1 : Int))))) with
                | none => none
                | some x4 => match lessWC ((dget a0 (dnat (IntKind.wrap .i64 (a2 + a3))) (0 : Int)), (dget a0 (dnat (IntKind.wrap .i64 (a2 + (IntKind.wrap .i64 ((IntKind.wrap .i64 ((IntKind.wrap .i64 ((2 : Int) * a3)) + (1 : Int))) + (1 : Int)))))) (0 : Int)), ()) with
                  | none => none
                  | some (y5, _) => match (!y5) with
                    | true => some (.inr (.inr (.inl (a0, ()))))
                    | false => match idxR a0 (IntKind.wrap .i64 (a2 + (IntKind.wrap .i64 ((IntKind.wrap .i64 ((IntKind.wrap .i64 ((2 : Int) * a3)) + (1 : Int))) + (1 : Int))))) with
                      | none => none
                      | some x6 => match idxR a0 (IntKind.wrap .i64 (a2 + a3)) with
                        | none => none
                        | some x7 => match idxR a0 (IntKind.wrap .i64 (a2 + a3)) with
                          | none => none
                          | some x8 => match idxR (dset a0 (dnat (IntKind.wrap .i64 (a2 + a3))) (dget a0 (dnat (IntKind.wrap .i64 (a2 + (IntKind.wrap .i64 ((IntKind.wrap .i64 ((IntKind.wrap .i64 ((2 : Int) * a3)) + (1 : Int))) + (1 : Int)))))) (0 : Int))) (IntKind.wrap .i64 (a2 + (IntKind.wrap .i64 ((IntKind.wrap .i64 ((IntKind.wrap .i64 ((2 : Int) * a3)) + (1 : Int))) + (1 : Int))))) with
                            | none => none
                            | some x9 => some (.inl ((dset (dset a0 (dnat (IntKind.wrap .i64 (a2 + a3))) (dget a0 (dnat (IntKind.wrap .i64 (a2 + (IntKind.wrap .i64 ((IntKind.wrap .i64 ((IntKind.wrap .i64 ((2 : Int) * a3)) + (1 : Int))) + (1 : Int)))))) (0 : Int))) (dnat (IntKind.wrap .i64 (a2 + (IntKind.wrap .i64 ((IntKind.wrap .i64 ((IntKind.wrap .i64 ((2 : Int) * a3)) + (1 : Int))) + (1 : Int)))))) (dget a0 (dnat (IntKind.wrap .i64 (a2 + a3))) (0 : Int))), a1, a2, (IntKind.wrap .i64 ((IntKind.wrap .i64 ((IntKind.wrap .i64 ((2 : Int) * a3)) + (1 : Int))) + (1 : Int))), ()))
            | false => match idxR a0 (IntKind.wrap .i64 (a2 + a3)) with
              | none => none
              | some x10 => match idxR a0 (IntKind.wrap .i64 (a2 + (IntKind.wrap .i64 ((IntKind.wrap .i64 ((2 : Int) * a3)) + (1 : Int))))) with
                | none => none
                | some x11 => match lessWC ((dget a0 (dnat (IntKind.wrap .i64 (a2 + a3))) (0 : Int)), (dget a0 (dnat (IntKind.wrap .i64 (a2 + (IntKind.wrap .i64 ((IntKind.wrap .i64 ((2 : Int) * a3)) + (1 : Int)))))) (0 : Int)), ()) with
                  | none => none
                  | some (y12, _) => match (!y12) with
                    | true => some (.inr (.inr (.inl (a0, ()))))
                    | false => match idxR a0 (IntKind.wrap .i64 (a2 + (IntKind.wrap .i64 ((IntKind.wrap .i64 ((2 : Int) * a3)) + (1 : Int))))) with
                      | none => none
                      | some x13 => match idxR a0 (IntKind.wrap .i64 (a2 + a3)) with
                        | none => none
                        | some x14 => match idxR a0 (IntKind.wrap .i64 (a2 + a3)) with
                          | none => none
                          | some x15 => match idxR (dset a0 (dnat (IntKind.wrap .i64 (a2 + a3))) (dget a0 (dnat (IntKind.wrap .i64 (a2 + (IntKind.wrap .i64 ((IntKind.wrap .i64 ((2 : Int) * a3)) + (1 : Int)))))) (0 : Int))) (IntKind.wrap .i64 (a2 + (IntKind.wrap .i64 ((IntKind.wrap .i64 ((2 : Int) * a3)) + (1 : Int))))) with
                            | none => none
                            | some x16 => some (.inl ((dset (dset a0 (dnat (IntKind.wrap .i64 (a2 + a3))) (dget a0 (dnat (IntKind.wrap .i64 (a2 + (IntKind.wrap .i64 ((IntKind.wrap .i64 ((2 : Int) * a3)) + (1 : Int)))))) (0 : Int))) (dnat (IntKind.wrap .i64 (a2 + (IntKind.wrap .i64 ((IntKind.wrap .i64 ((2 : Int) * a3)) + (1 : Int)))))) (dget a0 (dnat (IntKind.wrap .i64 (a2 + a3))) (0 : Int))), a1, a2, (IntKind.wrap .i64 ((IntKind.wrap .i64 ((2 : Int) * a3)) + (1 : Int))), ()))
    | false => match idxR a0 (IntKind.wrap .i64 (a2 + a3)) with
      | none => none
      | some x17 => match idxR a0 (IntKind.wrap .i64 (a2 + (IntKind.wrap .i64 ((IntKind.wrap .i64 ((2 : Int) * a3)) + (1 : Int))))) with
        | none => none
        | some x18 => match lessWC ((dget a0 (dnat (IntKind.wrap .i64 (a2 + a3))) (0 : Int)), (dget a0 (dnat (IntKind.wrap .i64 (a2 + (IntKind.wrap .i64 ((IntKind.wrap .i64 ((2 : Int) * a3)) + (1 : Int)))))) (0 : Int)), ()) with
          | none => none
          | some (y19, _) => match (!y19) with
            | true => some (.inr (.inr (.inl (a0, ()))))
            | false => match idxR a0 (IntKind.wrap .i64 (a2 + (IntKind.wrap .i64 ((IntKind.wrap .i64 ((2 : Int) * a3)) + (1 : Int))))) with
              | none => none
              | some x20 => match idxR a0 (IntKind.wrap .i64 (a2 + a3)) with
                | none => none
                | some x21 => match idxR a0 (IntKind.wrap .i64 (a2 + a3)) with
                  | none => none
                  | some x22 => match idxR (dset a0 (dnat (IntKind.wrap .i64 (a2 + a3))) (dget a0 (dnat (IntKind.wrap .i64 (a2 + (IntKind.wrap .i64 ((IntKind.wrap .i64 ((2 : Int) * a3)) + (1 : Int)))))) (0 : Int))) (IntKind.wrap .i64 (a2 + (IntKind.wrap .i64 ((IntKind.wrap .i64 ((2 : Int) * a3)) + (1 : Int))))) with
                    | none => none
                    | some x23 => some (.inl ((dset (dset a0 (dnat (IntKind.wrap .i64 (a2 + a3))) (dget a0 (dnat (IntKind.wrap .i64 (a2 + (IntKind.wrap .i64 ((IntKind.wrap .i64 ((2 : Int) * a3)) + (1 : Int)))))) (0 : Int))) (dnat (IntKind.wrap .i64 (a2 + (IntKind.wrap .i64 ((IntKind.wrap .i64 ((2 : Int) * a3)) + (1 : Int)))))) (dget a0 (dnat (IntKind.wrap .i64 (a2 + a3))) (0 : Int))), a1, a2, (IntKind.wrap .i64 ((IntKind.wrap .i64 ((2 : Int) * a3)) + (1 : Int))), ()))

theorem siftW_s0_ceq : siftW_s0 = siftW_s0C := by
  funext v
  simp only [siftW_s0, siftW_s0C, idx_eq, ilt_eqR, ile_eqR, lessW_ceq] <;> rfl

def siftW_dC : (List Int × Int × Int × Int × Unit) → Option ((List Int × Unit)) := fun (a0, a1, a2, a3, _) =>
  match iterO siftW_s0C many (a0, a2, a3, a1, ()) with
  | none => none
  | some r => match r with
    | .inl (o0, _) => some (o0, ())
    | .inr r => match r with
      | .inl (o1, _) => some (o1, ())
      | .inr _ => none

theorem siftW_d_ceq : siftW_d = siftW_dC := by
  funext v
  simp only [siftW_d, siftW_dC, iterL_eq, siftW_s0_ceq] <;> rfl

def siftWC (v : denL (leaves siftW_i)) : Option (denL (leaves siftW_o)) := siftW_dC v

theorem siftW_ceq : siftW = siftWC := by
  funext v
  rw [siftW_eq, siftW_d_ceq]; rfl


-- slices.heapSortOrdered[uint32]
abbrev heapW_i : Items := [(.tmp 0, .own 34 (.int .u32)), (.tmp 1, .dat (.int .i64)), (.tmp 2, .dat (.int .i64))]
abbrev heapW_o : Items := [(.obj 0, .own 34 (.int .u32))]
abbrev heapW_r : List RS := []
abbrev heapW_i1 : Items := [(.obj 0, .own 34 (.int .u32)), (.tmp 0, .own' 0), (.tmp 6, .dat (.int .i64)), (.tmp 7, .dat (.int .i64)), (.tmp 10, .dat (.int .i64))]
abbrev heapW_o1 : Outs := [(.exit 2, [(.obj 0, .own 34 (.int .u32))])]
def heapW_s1 : (List Int × Int × Int × Int × Unit) → Option ((List Int × Int × Int × Int × Unit) ⊕ (List Int × Unit) ⊕ Unit) := fun (a0, a1, a2, a3, _) =>
  match (ile (0 : Int) a3) with
  | true => match idx a0 (IntKind.wrap .i64 (a1 + a3)) with
    | none => none
    | some x0 => match idx a0 a1 with
      | none => none
      | some x1 => match idx a0 a1 with
        | none => none
        | some x2 => match idx (dset a0 (dnat a1) (dget a0 (dnat (IntKind.wrap .i64 (a1 + a3))) (0 : Int))) (IntKind.wrap .i64 (a1 + a3)) with
          | none => none
          | some x3 => match siftW ((dset (dset a0 (dnat a1) (dget a0 (dnat (IntKind.wrap .i64 (a1 + a3))) (0 : Int))) (dnat (IntKind.wrap .i64 (a1 + a3))) (dget a0 (dnat a1) (0 : Int))), a2, a3, a1, ()) with
            | none => none
            | some (y4, _) => some (.inl (y4, a1, a2, (IntKind.wrap .i64 (a3 - (1 : Int))), ()))
  | false => some (.inr (.inl (a0, ())))
abbrev heapW_i0 : Items := [(.obj 0, .own 34 (.int .u32)), (.tmp 0, .own' 0), (.tmp 6, .dat (.int .i64)), (.tmp 7, .dat (.int .i64)), (.tmp 8, .dat (.int .i64)), (.tmp 9, .dat (.int .i64))]
abbrev heapW_o0 : Outs := [(.exit 0, [(.obj 0, .own 34 (.int .u32)), (.tmp 0, .own' 0), (.tmp 6, .dat (.int .i64)), (.tmp 7, .dat (.int .i64)), (.tmp 8, .dat (.int .i64))])]
def heapW_s0 : (List Int × Int × Int × Int × Int × Unit) → Option ((List Int × Int × Int × Int × Int × Unit) ⊕ (List Int × Int × Int × Int × Unit) ⊕ Unit) := fun (a0, a1, a2, a3, a4, _) =>
  match (ile (0 : Int) a4) with
  | true => match siftW (a0, a4, a3, a1, ()) with
    | none => none
    | some (y0, _) => some (.inl (y0, a1, a2, a3, (IntKind.wrap .i64 (a4 - (1 : Int))), ()))
  | false => some (.inr (.inl (a0, a1, a2, a3, ())))
def heapW_d : (List Int × Int × Int × Unit) → Option ((List Int × Unit)) := fun (a0, a1, a2, _) =>
  match quo? .i64 (IntKind.wrap .i64 ((IntKind.wrap .i64 (a2 - a1)) - (1 : Int))) (2 : Int) with
  | none => none
  | some x0 => match iterL heapW_s0 many (a0, a1, (0 : Int), (IntKind.wrap .i64 (a2 - a1)), x0, ()) with
    | none => none
    | some r => match r with
      | .inl (o1, o2, o3, o4, _) => match iterL heapW_s1 many (o1, o2, o3, (IntKind.wrap .i64 (o4 - (1 : Int))), ()) with
        | none => none
        | some r => match r with
          | .inl (o5, _) => some (o5, ())
          | .inr _ => none
      | .inr _ => none
def heapW (v : (List Int × Int × Int × Unit)) : Option ((List Int × Unit)) := lock (heapW_d v)
theorem heapW_eq (v : (List Int × Int × Int × Unit)) : heapW v = heapW_d v := lock_eq _
def heapW_s1C : (List Int × Int × Int × Int × Unit) → Option ((List Int × Int × Int × Int × Unit) ⊕ (List Int × Unit) ⊕ Unit) := fun (a0, a1, a2, a3, _) =>
  match (ileR (0 : Int) a3) with
  | true => match idxR a0 (IntKind.wrap .i64 (a1 + a3)) with
    | none => none
    | some x0 => match idxR a0 a1 with
      | none => none
      | some x1 => match idxR a0 a1 with
        | none => none
        | some x2 => match idxR (dset a0 (dnat a1) (dget a0 (dnat (IntKind.wrap .i64 (a1 + a3))) (0 : Int))) (IntKind.wrap .i64 (a1 + a3)) with
          | none => none
          | some x3 => match siftWC ((dset (dset a0 (dnat a1) (dget a0 (dnat (IntKind.wrap .i64 (a1 + a3))) (0 : Int))) (dnat (IntKind.wrap .i64 (a1 + a3))) (dget a0 (dnat a1) (0 : Int))), a2, a3, a1, ()) with
            | none => none
            | some (y4, _) => some (.inl (y4, a1, a2, (IntKind.wrap .i64 (a3 - (1 : Int))), ()))
  | false => some (.inr (.inl (a0, ())))

theorem heapW_s1_ceq : heapW_s1 = heapW_s1C := by
  funext v
  simp only [heapW_s1, heapW_s1C, idx_eq, ile_eqR, siftW_ceq] <;> rfl

def heapW_s0C : (List Int × Int × Int × Int × Int × Unit) → Option ((List Int × Int × Int × Int × Int × Unit) ⊕ (List Int × Int × Int × Int × Unit) ⊕ Unit) := fun (a0, a1, a2, a3, a4, _) =>
  match (ileR (0 : Int) a4) with
  | true => match siftWC (a0, a4, a3, a1, ()) with
    | none => none
    | some (y0, _) => some (.inl (y0, a1, a2, a3, (IntKind.wrap .i64 (a4 - (1 : Int))), ()))
  | false => some (.inr (.inl (a0, a1, a2, a3, ())))

theorem heapW_s0_ceq : heapW_s0 = heapW_s0C := by
  funext v
  simp only [heapW_s0, heapW_s0C, ile_eqR, siftW_ceq] <;> rfl

def heapW_dC : (List Int × Int × Int × Unit) → Option ((List Int × Unit)) := fun (a0, a1, a2, _) =>
  match quoR .i64 (IntKind.wrap .i64 ((IntKind.wrap .i64 (a2 - a1)) - (1 : Int))) (2 : Int) with
  | none => none
  | some x0 => match iterO heapW_s0C many (a0, a1, (0 : Int), (IntKind.wrap .i64 (a2 - a1)), x0, ()) with
    | none => none
    | some r => match r with
      | .inl (o1, o2, o3, o4, _) => match iterO heapW_s1C many (o1, o2, o3, (IntKind.wrap .i64 (o4 - (1 : Int))), ()) with
        | none => none
        | some r => match r with
          | .inl (o5, _) => some (o5, ())
          | .inr _ => none
      | .inr _ => none

theorem heapW_d_ceq : heapW_d = heapW_dC := by
  funext v
  simp only [heapW_d, heapW_dC, quo_eq, iterL_eq, heapW_s1_ceq, heapW_s0_ceq] <;> rfl

def heapWC (v : denL (leaves heapW_i)) : Option (denL (leaves heapW_o)) := heapW_dC v

theorem heapW_ceq : heapW = heapWC := by
  funext v
  rw [heapW_eq, heapW_d_ceq]; rfl


end
end Go.Pev
end
section
/- The models of functions: what they compute, as plain functions of leaves; each twice: locked, and to compute with (C). Printed by a program. -/
namespace Go.Pev
set_option maxRecDepth 100000
noncomputable section
attribute [local irreducible] fitsR fitsIR idxR sublR iltR ileR ieqR quoR remR shlR shrR cloneR iterO many IntKind.wrap dlen dset dget dapp dtake dcut drep dnat dclear imin imax lookupM storeM
-- slices.nextPowerOfTwo
abbrev nextPow_i : Items := [(.tmp 0, .dat (.int .i64))]
abbrev nextPow_o : Items := [(.tmp 0, .dat (.int .u64))]
abbrev nextPow_r : List RS := [.one]
def nextPow_d : (Int × Unit) → Option ((Int × Unit)) := fun (a0, _) =>
  match bitsLen ((IntKind.wrap .u64 a0), ()) with
  | none => none
  | some (y0, _) => match shl? .u64 (1 : Int) y0 with
    | none => none
    | some x1 => some (x1, ())
def nextPow (v : (Int × Unit)) : Option ((Int × Unit)) := lock (nextPow_d v)
theorem nextPow_eq (v : (Int × Unit)) : nextPow v = nextPow_d v := lock_eq _
def nextPow_dC : (Int × Unit) → Option ((Int × Unit)) := fun (a0, _) =>
  match bitsLenC ((IntKind.wrap .u64 a0), ()) with
  | none => none
  | some (y0, _) => match shlR .u64 (1 : Int) y0 with
    | none => none
    | some x1 => some (x1, ())

theorem nextPow_d_ceq : nextPow_d = nextPow_dC := by
  funext v
  simp only [nextPow_d, nextPow_dC, shl_eq, bitsLen_ceq] <;> rfl

def nextPowC (v : denL (leaves nextPow_i)) : Option (denL (leaves nextPow_o)) := nextPow_dC v

theorem nextPow_ceq : nextPow = nextPowC := by
  funext v
  rw [nextPow_eq, nextPow_d_ceq]; rfl


-- slices.breakPatternsOrdered[uint32]
abbrev breakW_i : Items := [(.tmp 0, .own 34 (.int .u32)), (.tmp 1, .dat (.int .i64)), (.tmp 2, .dat (.int .i64))]
abbrev breakW_o : Items := [(.obj 0, .own 34 (.int .u32))]
abbrev breakW_r : List RS := []
abbrev breakW_i0 : Items := [(.obj 0, .own 34 (.int .u32)), (.tmp 0, .own' 0), (.tmp 1, .dat (.int .i64)), (.tmp 6, .dat (.int .i64)), (.tmp 7, .box 1), (.cell 1 0, .dat (.int .u64)), (.tmp 8, .dat (.int .u64)), (.tmp 9, .dat (.int .i64))]
abbrev breakW_o0 : Outs := [(.exit 0, [(.obj 0, .own 34 (.int .u32))])]
def breakW_s0 : (List Int × Int × Int × Int × Int × Int × Unit) → Option ((List Int × Int × Int × Int × Int × Int × Unit) ⊕ (List Int × Unit) ⊕ Unit) := fun (a0, a1, a2, a3, a4, a5, _) =>
  match quo? .i64 a2 (4 : Int) with
  | none => none
  | some x0 => match (ile a5 (IntKind.wrap .i64 ((IntKind.wrap .i64 (a1 + (IntKind.wrap .i64 (x0 * (2 : Int))))) + (1 : Int)))) with
    | true => match xorNext (a3, ()) with
      | none => none
      | some (y1, y2, _) => match (ile a2 (IntKind.wrap .i64 (IntKind.wrap .u64 ((BitVec.ofInt (IntKind.bits .u64) y2 &&& BitVec.ofInt (IntKind.bits .u64) (IntKind.wrap .u64 (a4 - (1 : Int)))).toNat)))) with
        | true => match idx a0 (IntKind.wrap .i64 (a1 + (IntKind.wrap .i64 ((IntKind.wrap .i64 (IntKind.wrap .u64 ((BitVec.ofInt (IntKind.bits .u64) y2 &&& BitVec.ofInt (IntKind.bits .u64) (IntKind.wrap .u64 (a4 - (1 : Int)))).toNat))) - a2)))) with
          | none => none
          | some x3 => match idx a0 a5 with
            | none => none
            | some x4 => match idx a0 a5 with
              | none => none
              | some x5 => match idx (dset a0 (dnat a5) (dget a0 (dnat (IntKind.wrap .i64 (a1 + (IntKind.wrap .i64 ((IntKind.wrap .i64 (IntKind.wrap .u64 ((BitVec.ofInt (IntKind.bits .u64) y2 &&& BitVec.ofInt (IntKind.bits .u64) (IntKind.wrap .u64 (a4 - (1 : Int)))).toNat))) - a2))))) (0 : Int))) (IntKind.wrap .i64 (a1 + (IntKind.wrap .i64 ((IntKind.wrap .i64 (IntKind.wrap .u64 ((BitVec.ofInt (IntKind.bits .u64) y2 &&& BitVec.ofInt (IntKind.bits .u64) (IntKind.wrap .u64 (a4 - (1 : Int)))).toNat))) - a2)))) with
                | none => none
                | some x6 => some (.inl ((dset (dset a0 (dnat a5) (dget a0 (dnat (IntKind.wrap .i64 (a1 + (IntKind.wrap .i64 ((IntKind.wrap .i64 (IntKind.wrap .u64 ((BitVec.ofInt (IntKind.bits .u64) y2 &&& BitVec.ofInt (IntKind.bits .u64) (IntKind.wrap .u64 (a4 - (1 : Int)))).toNat))) - a2))))) (0 : Int))) (dnat (IntKind.wrap .i64 (a1 + (IntKind.wrap .i64 ((IntKind.wrap .i64 (IntKind.wrap .u64 ((BitVec.ofInt (IntKind.bits .u64) y2 &&& BitVec.ofInt (IntKind.bits .u64) (IntKind.wrap .u64 (a4 - (1 : Int)))).toNat))) - a2))))) (dget a0 (dnat a5) (0 : Int))), a1, a2, y1, a4, (IntKind.wrap .i64 (a5 + (1 : Int))), ()))
        | false => match idx a0 (IntKind.wrap .i64 (a1 + (IntKind.wrap .i64 (IntKind.wrap .u64 ((BitVec.ofInt (IntKind.bits .u64) y2 &&& BitVec.ofInt (IntKind.bits .u64) (IntKind.wrap .u64 (a4 - (1 : Int)))).toNat))))) with
          | none => none
          | some x7 => match idx a0 a5 with
            | none => none
            | some x8 => match idx a0 a5 with
              | none => none
              | some x9 => match idx (dset a0 (dnat a5) (dget a0 (dnat (IntKind.wrap .i64 (a1 + (IntKind.wrap .i64 (IntKind.wrap .u64 ((BitVec.ofInt (IntKind.bits .u64) y2 &&& BitVec.ofInt (IntKind.bits .u64) (IntKind.wrap .u64 (a4 - (1 : Int)))).toNat)))))) (0 : Int))) (IntKind.wrap .i64 (a1 + (IntKind.wrap .i64 (IntKind.wrap .u64 ((BitVec.ofInt (IntKind.bits .u64) y2 &&& BitVec.ofInt (IntKind.bits .u64) (IntKind.wrap .u64 (a4 - (1 : Int)))).toNat))))) with
                | none => none
                | some x10 => some (.inl ((dset (dset a0 (dnat a5) (dget a0 (dnat (IntKind.wrap .i64 (a1 + (IntKind.wrap .i64 (IntKind.wrap .u64 ((BitVec.ofInt (IntKind.bits .u64) y2 &&& BitVec.ofInt (IntKind.bits .u64) (IntKind.wrap .u64 (a4 - (1 : Int)))).toNat)))))) (0 : Int))) (dnat (IntKind.wrap .i64 (a1 + (IntKind.wrap .i64 (IntKind.wrap .u64 ((BitVec.ofInt (IntKind.bits .u64) y2 &&& BitVec.ofInt (IntKind.bits .u64) (IntKind.wrap .u64 (a4 - (1 : Int)))).toNat)))))) (dget a0 (dnat a5) (0 : Int))), a1, a2, y1, a4, (IntKind.wrap .i64 (a5 + (1 : Int))), ()))
    | false => some (.inr (.inl (a0, ())))
def breakW_d : (List Int × Int × Int × Unit) → Option ((List Int × Unit)) := fun (a0, a1, a2, _) =>
  match (ile (8 : Int) (IntKind.wrap .i64 (a2 - a1))) with
  | true => match nextPow ((IntKind.wrap .i64 (a2 - a1)), ()) with
    | none => none
    | some (y0, _) => match quo? .i64 (IntKind.wrap .i64 (a2 - a1)) (4 : Int) with
      | none => none
      | some x1 => match iterL breakW_s0 many (a0, a1, (IntKind.wrap .i64 (a2 - a1)), (IntKind.wrap .u64 (IntKind.wrap .i64 (a2 - a1))), y0, (IntKind.wrap .i64 ((IntKind.wrap .i64 (a1 + (IntKind.wrap .i64 (x1 * (2 : Int))))) - (1 : Int))), ()) with
        | none => none
        | some r => match r with
          | .inl (o2, _) => some (o2, ())
          | .inr _ => none
  | false => some (a0, ())
def breakW (v : (List Int × Int × Int × Unit)) : Option ((List Int × Unit)) := lock (breakW_d v)
theorem breakW_eq (v : (List Int × Int × Int × Unit)) : breakW v = breakW_d v := lock_eq _
def breakW_s0C : (List Int × Int × Int × Int × Int × Int × Unit) → Option ((List Int × Int × Int × Int × Int × Int × Unit) ⊕ (List Int × Unit) ⊕ Unit) := fun (a0, a1, a2, a3, a4, a5, _) =>
  match quoR .i64 a2 (4 : Int) with
  | none => none
  | some x0 => match (ileR a5 (IntKind.wrap .i64 ((IntKind.wrap .i64 (a1 + (IntKind.wrap .i64 (x0 * (2 : Int))))) + (1 : Int)))) with
    | true => match xorNextC (a3, ()) with
      | none => none
      | some (y1, y2, _) => match (ileR a2 (IntKind.wrap .i64 (IntKind.wrap .u64 ((BitVec.ofInt (IntKind.bits .u64) y2 &&& BitVec.ofInt (IntKind.bits .u64) (IntKind.wrap .u64 (a4 - (1 : Int)))).toNat)))) with
        | true => match idxR a0 (IntKind.wrap .i64 (a1 + (IntKind.wrap .i64 ((IntKind.wrap .i64 (IntKind.wrap .u64 ((BitVec.ofInt (IntKind.bits .u64) y2 &&& BitVec.ofInt (IntKind.bits .u64) (IntKind.wrap .u64 (a4 - (1 : Int)))).toNat))) - a2)))) with
          | none => none
          | some x3 => match idxR a0 a5 with
            | none => none
            | some x4 => match idxR a0 a5 with
              | none => none
              | some x5 => match idxR (dset a0 (dnat a5) (dget a0 (dnat (IntKind.wrap .i64 (a1 + (IntKind.wrap .i64 ((IntKind.wrap .i64 (IntKind.wrap .u64 ((BitVec.ofInt (IntKind.bits .u64) y2 &&& BitVec.ofInt (IntKind.bits .u64) (IntKind.wrap .u64 (a4 - (1 : Int)))).toNat))) - a2))))) (0 : Int))) (IntKind.wrap .i64 (a1 + (IntKind.wrap .i64 ((IntKind.wrap .i64 (IntKind.wrap .u64 ((BitVec.ofInt (IntKind.bits .u64) y2 &&& BitVec.ofInt (IntKind.bits .u64) (IntKind.wrap .u64 (a4 - (1 : Int)))).toNat))) - a2)))) with
                | none => none
                | some x6 => some (.inl ((dset (dset a0 (dnat a5) (dget a0 (dnat (IntKind.wrap .i64 (a1 + (IntKind.wrap .i64 ((IntKind.wrap .i64 (IntKind.wrap .u64 ((BitVec.ofInt (IntKind.bits .u64) y2 &&& BitVec.ofInt (IntKind.bits .u64) (IntKind.wrap .u64 (a4 - (1 : Int)))).toNat))) - a2))))) (0 : Int))) (dnat (IntKind.wrap .i64 (a1 + (IntKind.wrap .i64 ((IntKind.wrap .i64 (IntKind.wrap .u64 ((BitVec.ofInt (IntKind.bits .u64) y2 &&& BitVec.ofInt (IntKind.bits .u64) (IntKind.wrap .u64 (a4 - (1 : Int)))).toNat))) - a2))))) (dget a0 (dnat a5) (0 : Int))), a1, a2, y1, a4, (IntKind.wrap .i64 (a5 + (1 : Int))), ()))
        | false => match idxR a0 (IntKind.wrap .i64 (a1 + (IntKind.wrap .i64 (IntKind.wrap .u64 ((BitVec.ofInt (IntKind.bits .u64) y2 &&& BitVec.ofInt (IntKind.bits .u64) (IntKind.wrap .u64 (a4 - (1 : Int)))).toNat))))) with
          | none => none
          | some x7 => match idxR a0 a5 with
            | none => none
            | some x8 => match idxR a0 a5 with
              | none => none
              | some x9 => match idxR (dset a0 (dnat a5) (dget a0 (dnat (IntKind.wrap .i64 (a1 + (IntKind.wrap .i64 (IntKind.wrap .u64 ((BitVec.ofInt (IntKind.bits .u64) y2 &&& BitVec.ofInt (IntKind.bits .u64) (IntKind.wrap .u64 (a4 - (1 : Int)))).toNat)))))) (0 : Int))) (IntKind.wrap .i64 (a1 + (IntKind.wrap .i64 (IntKind.wrap .u64 ((BitVec.ofInt (IntKind.bits .u64) y2 &&& BitVec.ofInt (IntKind.bits .u64) (IntKind.wrap .u64 (a4 - (1 : Int)))).toNat))))) with
                | none => none
                | some x10 => some (.inl ((dset (dset a0 (dnat a5) (dget a0 (dnat (IntKind.wrap .i64 (a1 + (IntKind.wrap .i64 (IntKind.wrap .u64 ((BitVec.ofInt (IntKind.bits .u64) y2 &&& BitVec.ofInt (IntKind.bits .u64) (IntKind.wrap .u64 (a4 - (1 : Int)))).toNat)))))) (0 : Int))) (dnat (IntKind.wrap .i64 (a1 + (IntKind.wrap .i64 (IntKind.wrap .u64 ((BitVec.ofInt (IntKind.bits .u64) y2 &&& BitVec.ofInt (IntKind.bits .u64) (IntKind.wrap .u64 (a4 - (1 : Int)))).toNat)))))) (dget a0 (dnat a5) (0 : Int))), a1, a2, y1, a4, (IntKind.wrap .i64 (a5 + (1 : Int))), ()))
    | false => some (.inr (.inl (a0, ())))

theorem breakW_s0_ceq : breakW_s0 = breakW_s0C := by
  funext v
  simp only [breakW_s0, breakW_s0C, idx_eq, quo_eq, ile_eqR, xorNext_ceq] <;> rfl

def breakW_dC : (List Int × Int × Int × Unit) → Option ((List Int × Unit)) := fun (a0, a1, a2, _) =>
  match (ileR (8 : Int) (IntKind.wrap .i64 (a2 - a1))) with
  | true => match nextPowC ((IntKind.wrap .i64 (a2 - a1)), ()) with
    | none => none
    | some (y0, _) => match quoR .i64 (IntKind.wrap .i64 (a2 - a1)) (4 : Int) with
      | none => none
      | some x1 => match iterO breakW_s0C many (a0, a1, (IntKind.wrap .i64 (a2 - a1)), (IntKind.wrap .u64 (IntKind.wrap .i64 (a2 - a1))), y0, (IntKind.wrap .i64 ((IntKind.wrap .i64 (a1 + (IntKind.wrap .i64 (x1 * (2 : Int))))) - (1 : Int))), ()) with
        | none => none
        | some r => match r with
          | .inl (o2, _) => some (o2, ())
          | .inr _ => none
  | false => some (a0, ())

theorem breakW_d_ceq : breakW_d = breakW_dC := by
  funext v
  simp only [breakW_d, breakW_dC, quo_eq, iterL_eq, ile_eqR, nextPow_ceq, breakW_s0_ceq] <;> rfl

def breakWC (v : denL (leaves breakW_i)) : Option (denL (leaves breakW_o)) := breakW_dC v

theorem breakW_ceq : breakW = breakWC := by
  funext v
  rw [breakW_eq, breakW_d_ceq]; rfl


-- slices.order2Ordered[uint32]
abbrev order2W_i : Items := [(.tmp 0, .own 34 (.int .u32)), (.tmp 1, .dat (.int .i64)), (.tmp 2, .dat (.int .i64)), (.tmp 3, .box 1), (.cell 1 0, .dat (.int .i64))]
abbrev order2W_o : Items := [(.obj 0, .own 34 (.int .u32)), (.obj 1, .box 1), (.cell 1 0, .dat (.int .i64)), (.tmp 0, .dat (.int .i64)), (.tmp 1, .dat (.int .i64))]
abbrev order2W_r : List RS := [.one, .one]
def order2W_d : (List Int × Int × Int × Int × Unit) → Option ((List Int × Int × Int × Int × Unit)) := fun (a0, a1, a2, a3, _) =>
  match idx a0 a2 with
  | none => none
  | some x0 => match idx a0 a1 with
    | none => none
    | some x1 => match lessW ((dget a0 (dnat a2) (0 : Int)), (dget a0 (dnat a1) (0 : Int)), ()) with
      | none => none
      | some (y2, _) => match y2 with
        | true => some (a0, (IntKind.wrap .i64 (a3 + (1 : Int))), a2, a1, ())
        | false => some (a0, a3, a1, a2, ())
def order2W (v : (List Int × Int × Int × Int × Unit)) : Option ((List Int × Int × Int × Int × Unit)) := lock (order2W_d v)
theorem order2W_eq (v : (List Int × Int × Int × Int × Unit)) : order2W v = order2W_d v := lock_eq _
def order2W_dC : (List Int × Int × Int × Int × Unit) → Option ((List Int × Int × Int × Int × Unit)) := fun (a0, a1, a2, a3, _) =>
  match idxR a0 a2 with
  | none => none
  | some x0 => match idxR a0 a1 with
    | none => none
    | some x1 => match lessWC ((dget a0 (dnat a2) (0 : Int)), (dget a0 (dnat a1) (0 : Int)), ()) with
      | none => none
      | some (y2, _) => match y2 with
        | true => some (a0, (IntKind.wrap .i64 (a3 + (1 : Int))), a2, a1, ())
        | false => some (a0, a3, a1, a2, ())

theorem order2W_d_ceq : order2W_d = order2W_dC := by
  funext v
  simp only [order2W_d, order2W_dC, idx_eq, lessW_ceq] <;> rfl

def order2WC (v : denL (leaves order2W_i)) : Option (denL (leaves order2W_o)) := order2W_dC v

theorem order2W_ceq : order2W = order2WC := by
  funext v
  rw [order2W_eq, order2W_d_ceq]; rfl


-- slices.medianOrdered[uint32]
abbrev medianW_i : Items := [(.tmp 0, .own 34 (.int .u32)), (.tmp 1, .dat (.int .i64)), (.tmp 2, .dat (.int .i64)), (.tmp 3, .dat (.int .i64)), (.tmp 4, .box 1), (.cell 1 0, .dat (.int .i64))]
abbrev medianW_o : Items := [(.obj 0, .own 34 (.int .u32)), (.obj 1, .box 1), (.cell 1 0, .dat (.int .i64)), (.tmp 0, .dat (.int .i64))]
abbrev medianW_r : List RS := [.one]
def medianW_d : (List Int × Int × Int × Int × Int × Unit) → Option ((List Int × Int × Int × Unit)) := fun (a0, a1, a2, a3, a4, _) =>
  match order2W (a0, a1, a2, a4, ()) with
  | none => none
  | some (y0, y1, y2, y3, _) => match order2W (y0, y3, a3, y1, ()) with
    | none => none
    | some (y4, y5, y6, y7, _) => match order2W (y4, y2, y6, y5, ()) with
      | none => none
      | some (y8, y9, y10, y11, _) => some (y8, y9, y11, ())
def medianW (v : (List Int × Int × Int × Int × Int × Unit)) : Option ((List Int × Int × Int × Unit)) := lock (medianW_d v)
theorem medianW_eq (v : (List Int × Int × Int × Int × Int × Unit)) : medianW v = medianW_d v := lock_eq _
def medianW_dC : (List Int × Int × Int × Int × Int × Unit) → Option ((List Int × Int × Int × Unit)) := fun (a0, a1, a2, a3, a4, _) =>
  match order2WC (a0, a1, a2, a4, ()) with
  | none => none
  | some (y0, y1, y2, y3, _) => match order2WC (y0, y3, a3, y1, ()) with
    | none => none
    | some (y4, y5, y6, y7, _) => match order2WC (y4, y2, y6, y5, ()) with
      | none => none
      | some (y8, y9, y10, y11, _) => some (y8, y9, y11, ())

theorem medianW_d_ceq : medianW_d = medianW_dC := by
  funext v
  simp only [medianW_d, medianW_dC, order2W_ceq] <;> rfl

def medianWC (v : denL (leaves medianW_i)) : Option (denL (leaves medianW_o)) := medianW_dC v

theorem medianW_ceq : medianW = medianWC := by
  funext v
  rw [medianW_eq, medianW_d_ceq]; rfl


-- slices.medianAdjacentOrdered[uint32]
abbrev medAdjW_i : Items := [(.tmp 0, .own 34 (.int .u32)), (.tmp 1, .dat (.int .i64)), (.tmp 2, .box 1), (.cell 1 0, .dat (.int .i64))]
abbrev medAdjW_o : Items := [(.obj 0, .own 34 (.int .u32)), (.obj 1, .box 1), (.cell 1 0, .dat (.int .i64)), (.tmp 0, .dat (.int .i64))]
abbrev medAdjW_r : List RS := [.one]
def medAdjW_d : (List Int × Int × Int × Unit) → Option ((List Int × Int × Int × Unit)) := fun (a0, a1, a2, _) =>
  match medianW (a0, (IntKind.wrap .i64 (a1 - (1 : Int))), a1, (IntKind.wrap .i64 (a1 + (1 : Int))), a2, ()) with
  | none => none
  | some (y0, y1, y2, _) => some (y0, y1, y2, ())
def medAdjW (v : (List Int × Int × Int × Unit)) : Option ((List Int × Int × Int × Unit)) := lock (medAdjW_d v)
theorem medAdjW_eq (v : (List Int × Int × Int × Unit)) : medAdjW v = medAdjW_d v := lock_eq _
def medAdjW_dC : (List Int × Int × Int × Unit) → Option ((List Int × Int × Int × Unit)) := fun (a0, a1, a2, _) =>
  match medianWC (a0, (IntKind.wrap .i64 (a1 - (1 : Int))), a1, (IntKind.wrap .i64 (a1 + (1 : Int))), a2, ()) with
  | none => none
  | some (y0, y1, y2, _) => some (y0, y1, y2, ())

theorem medAdjW_d_ceq : medAdjW_d = medAdjW_dC := by
  funext v
  simp only [medAdjW_d, medAdjW_dC, medianW_ceq] <;> rfl

def medAdjWC (v : denL (leaves medAdjW_i)) : Option (denL (leaves medAdjW_o)) := medAdjW_dC v

theorem medAdjW_ceq : medAdjW = medAdjWC := by
  funext v
  rw [medAdjW_eq, medAdjW_d_ceq]; rfl


-- slices.choosePivotOrdered[uint32]
abbrev pivotW_i : Items := [(.tmp 0, .own 34 (.int .u32)), (.tmp 1, .dat (.int .i64)), (.tmp 2, .dat (.int .i64))]
abbrev pivotW_o : Items := [(.obj 0, .own 34 (.int .u32)), (.tmp 0, .dat (.int .i64)), (.tmp 1, .dat (.int .i64))]
abbrev pivotW_r : List RS := [.one, .one]
def pivotW_d : (List Int × Int × Int × Unit) → Option ((List Int × Int × Int × Unit)) := fun (a0, a1, a2, _) =>
  match quo? .i64 (IntKind.wrap .i64 (a2 - a1)) (4 : Int) with
  | none => none
  | some x0 => match quo? .i64 (IntKind.wrap .i64 (a2 - a1)) (4 : Int) with
    | none => none
    | some x1 => match quo? .i64 (IntKind.wrap .i64 (a2 - a1)) (4 : Int) with
      | none => none
      | some x2 => match (ile (8 : Int) (IntKind.wrap .i64 (a2 - a1))) with
        | true => match (ile (50 : Int) (IntKind.wrap .i64 (a2 - a1))) with
          | true => match medAdjW (a0, (IntKind.wrap .i64 (a1 + (IntKind.wrap .i64 (x0 * (1 : Int))))), (0 : Int), ()) with
            | none => none
            | some (y3, y4, y5, _) => match medAdjW (y3, (IntKind.wrap .i64 (a1 + (IntKind.wrap .i64 (x1 * (2 : Int))))), y4, ()) with
              | none => none
              | some (y6, y7, y8, _) => match medAdjW (y6, (IntKind.wrap .i64 (a1 + (IntKind.wrap .i64 (x2 * (3 : Int))))), y7, ()) with
                | none => none
                | some (y9, y10, y11, _) => match medianW (y9, y5, y8, y11, y10, ()) with
                  | none => none
                  | some (y12, y13, y14, _) => match (ieq y13 (0 : Int)) with
                    | true => some (y12, y14, (1 : Int), ())
                    | false => match (ieq y13 (12 : Int)) with
                      | true => some (y12, y14, (2 : Int), ())
                      | false => some (y12, y14, (0 : Int), ())
          | false => match medianW (a0, (IntKind.wrap .i64 (a1 + (IntKind.wrap .i64 (x0 * (1 : Int))))), (IntKind.wrap .i64 (a1 + (IntKind.wrap .i64 (x1 * (2 : Int))))), (IntKind.wrap .i64 (a1 + (IntKind.wrap .i64 (x2 * (3 : Int))))), (0 : Int), ()) with
            | none => none
            | some (y15, y16, y17, _) => match (ieq y16 (0 : Int)) with
              | true => some (y15, y17, (1 : Int), ())
              | false => match (ieq y16 (12 : Int)) with
                | true => some (y15, y17, (2 : Int), ())
                | false => some (y15, y17, (0 : Int), ())
        | false => match (ieq (0 : Int) (0 : Int)) with
          | true => some (a0, (IntKind.wrap .i64 (a1 + (IntKind.wrap .i64 (x1 * (2 : Int))))), (1 : Int), ())
          | false => match (ieq (0 : Int) (12 : Int)) with
            | true => some (a0, (IntKind.wrap .i64 (a1 + (IntKind.wrap .i64 (x1 * (2 : Int))))), (2 : Int), ())
            | false => some (a0, (IntKind.wrap .i64 (a1 + (IntKind.wrap .i64 (x1 * (2 : Int))))), (0 : Int), ())
def pivotW (v : (List Int × Int × Int × Unit)) : Option ((List Int × Int × Int × Unit)) := lock (pivotW_d v)
theorem pivotW_eq (v : (List Int × Int × Int × Unit)) : pivotW v = pivotW_d v := lock_eq _
def pivotW_dC : (List Int × Int × Int × Unit) → Option ((List Int × Int × Int × Unit)) := fun (a0, a1, a2, _) =>
  match quoR .i64 (IntKind.wrap .i64 (a2 - a1)) (4 : Int) with
  | none => none
  | some x0 => match quoR .i64 (IntKind.wrap .i64 (a2 - a1)) (4 : Int) with
    | none => none
    | some x1 => match quoR .i64 (IntKind.wrap .i64 (a2 - a1)) (4 : Int) with
      | none => none
      | some x2 => match (ileR (8 : Int) (IntKind.wrap .i64 (a2 - a1))) with
        | true => match (ileR (50 : Int) (IntKind.wrap .i64 (a2 - a1))) with
          | true => match medAdjWC (a0, (IntKind.wrap .i64 (a1 + (IntKind.wrap .i64 (x0 * (1 : Int))))), (0 : Int), ()) with
            | none => none
            | some (y3, y4, y5, _) => match medAdjWC (y3, (IntKind.wrap .i64 (a1 + (IntKind.wrap .i64 (x1 * (2 : Int))))), y4, ()) with
              | none => none
              | some (y6, y7, y8, _) => match medAdjWC (y6, (IntKind.wrap .i64 (a1 + (IntKind.wrap .i64 (x2 * (3 : Int))))), y7, ()) with
                | none => none
                | some (y9, y10, y11, _) => match medianWC (y9, y5, y8, y11, y10, ()) with
                  | none => none
                  | some (y12, y13, y14, _) => match (ieqR y13 (0 : Int)) with
                    | true => some (y12, y14, (1 : Int), ())
                    | false => match (ieqR y13 (12 : Int)) with
                      | true => some (y12, y14, (2 : Int), ())
                      | false => some (y12, y14, (0 : Int), ())
          | false => match medianWC (a0, (IntKind.wrap .i64 (a1 + (IntKind.wrap .i64 (x0 * (1 : Int))))), (IntKind.wrap .i64 (a1 + (IntKind.wrap .i64 (x1 * (2 : Int))))), (IntKind.wrap .i64 (a1 + (IntKind.wrap .i64 (x2 * (3 : Int))))), (0 : Int), ()) with
            | none => none
            | some (y15, y16, y17, _) => match (ieqR y16 (0 : Int)) with
              | true => some (y15, y17, (1 : Int), ())
              | false => match (ieqR y16 (12 : Int)) with
                | true => some (y15, y17, (2 : Int), ())
                | false => some (y15, y17, (0 : Int), ())
        | false => match (ieqR (0 : Int) (0 : Int)) with
          | true => some (a0, (IntKind.wrap .i64 (a1 + (IntKind.wrap .i64 (x1 * (2 : Int))))), (1 : Int), ())
          | false => match (ieqR (0 : Int) (12 : Int)) with
            | true => some (a0, (IntKind.wrap .i64 (a1 + (IntKind.wrap .i64 (x1 * (2 : Int))))), (2 : Int), ())
            | false => some (a0, (IntKind.wrap .i64 (a1 + (IntKind.wrap .i64 (x1 * (2 : Int))))), (0 : Int), ())

theorem pivotW_d_ceq : pivotW_d = pivotW_dC := by
  funext v
  simp only [pivotW_d, pivotW_dC, quo_eq, ile_eqR, ieq_eqR, medianW_ceq, medAdjW_ceq] <;> rfl

def pivotWC (v : denL (leaves pivotW_i)) : Option (denL (leaves pivotW_o)) := pivotW_dC v

theorem pivotW_ceq : pivotW = pivotWC := by
  funext v
  rw [pivotW_eq, pivotW_d_ceq]; rfl


-- slices.reverseRangeOrdered[uint32]
abbrev revW_i : Items := [(.tmp 0, .own 34 (.int .u32)), (.tmp 1, .dat (.int .i64)), (.tmp 2, .dat (.int .i64))]
abbrev revW_o : Items := [(.obj 0, .own 34 (.int .u32))]
abbrev revW_r : List RS := []
abbrev revW_i0 : Items := [(.obj 0, .own 34 (.int .u32)), (.tmp 0, .own' 0), (.tmp 6, .dat (.int .i64)), (.tmp 7, .dat (.int .i64))]
abbrev revW_o0 : Outs := [(.exit 0, [(.obj 0, .own 34 (.int .u32))])]
def revW_s0 : (List Int × Int × Int × Unit) → Option ((List Int × Int × Int × Unit) ⊕ (List Int × Unit) ⊕ Unit) := fun (a0, a1, a2, _) =>
  match (ilt a1 a2) with
  | true => match idx a0 a2 with
    | none => none
    | some x0 => match idx a0 a1 with
      | none => none
      | some x1 => match idx a0 a1 with
        | none => none
        | some x2 => match idx (dset a0 (dnat a1) (dget a0 (dnat a2) (0 : Int))) a2 with
          | none => none
          | some x3 => some (.inl ((dset (dset a0 (dnat a1) (dget a0 (dnat a2) (0 : Int))) (dnat a2) (dget a0 (dnat a1) (0 : Int))), (IntKind.wrap .i64 (a1 + (1 : Int))), (IntKind.wrap .i64 (a2 - (1 : Int))), ()))
  | false => some (.inr (.inl (a0, ())))
def revW_d : (List Int × Int × Int × Unit) → Option ((List Int × Unit)) := fun (a0, a1, a2, _) =>
  match iterL revW_s0 many (a0, a1, (IntKind.wrap .i64 (a2 - (1 : Int))), ()) with
  | none => none
  | some r => match r with
    | .inl (o0, _) => some (o0, ())
    | .inr _ => none
def revW (v : (List Int × Int × Int × Unit)) : Option ((List Int × Unit)) := lock (revW_d v)
theorem revW_eq (v : (List Int × Int × Int × Unit)) : revW v = revW_d v := lock_eq _
def revW_s0C : (List Int × Int × Int × Unit) → Option ((List Int × Int × Int × Unit) ⊕ (List Int × Unit) ⊕ Unit) := fun (a0, a1, a2, _) =>
  match (iltR a1 a2) with
  | true => match idxR a0 a2 with
    | none => none
    | some x0 => match idxR a0 a1 with
      | none => none
      | some x1 => match idxR a0 a1 with
        | none => none
        | some x2 => match idxR (dset a0 (dnat a1) (dget a0 (dnat a2) (0 : Int))) a2 with
          | none => none
          | some x3 => some (.inl ((dset (dset a0 (dnat a1) (dget a0 (dnat a2) (0 : Int))) (dnat a2) (dget a0 (dnat a1) (0 : Int))), (IntKind.wrap .i64 (a1 + (1 : Int))), (IntKind.wrap .i64 (a2 - (1 : Int))), ()))
  | false => some (.inr (.inl (a0, ())))

theorem revW_s0_ceq : revW_s0 = revW_s0C := by
  funext v
  simp only [revW_s0, revW_s0C, idx_eq, ilt_eqR] <;> rfl

def revW_dC : (List Int × Int × Int × Unit) → Option ((List Int × Unit)) := fun (a0, a1, a2, _) =>
  match iterO revW_s0C many (a0, a1, (IntKind.wrap .i64 (a2 - (1 : Int))), ()) with
  | none => none
  | some r => match r with
    | .inl (o0, _) => some (o0, ())
    | .inr _ => none

theorem revW_d_ceq : revW_d = revW_dC := by
  funext v
  simp only [revW_d, revW_dC, iterL_eq, revW_s0_ceq] <;> rfl

def revWC (v : denL (leaves revW_i)) : Option (denL (leaves revW_o)) := revW_dC v

theorem revW_ceq : revW = revWC := by
  funext v
  rw [revW_eq, revW_d_ceq]; rfl


-- slices.partialInsertionSortOrdered[uint32]
abbrev partInsW_i : Items := [(.tmp 0, .own 34 (.int .u32)), (.tmp 1, .dat (.int .i64)), (.tmp 2, .dat (.int .i64))]
abbrev partInsW_o : Items := [(.obj 0, .own 34 (.int .u32)), (.tmp 0, .dat .bool)]
abbrev partInsW_r : List RS := [.one]
abbrev partInsW_i3 : Items := [(.obj 0, .own 34 (.int .u32)), (.tmp 0, .own' 0), (.tmp 1, .dat (.int .i64)), (.tmp 2, .dat (.int .i64)), (.tmp 7, .dat (.int .i64)), (.tmp 8, .dat (.int .i64)), (.tmp 10, .dat (.int .i64))]
abbrev partInsW_o3 : Outs := [(.exit 6, [(.obj 0, .own 34 (.int .u32)), (.tmp 0, .own' 0), (.tmp 1, .dat (.int .i64)), (.tmp 2, .dat (.int .i64)), (.tmp 7, .dat (.int .i64)), (.tmp 8, .dat (.int .i64))])]
def partInsW_s3 : (List Int × Int × Int × Int × Int × Int × Unit) → Option ((List Int × Int × Int × Int × Int × Int × Unit) ⊕ (List Int × Int × Int × Int × Int × Unit) ⊕ Unit) := fun (a0, a1, a2, a3, a4, a5, _) =>
  match (ilt a5 a2) with
  | true => match idx a0 a5 with
    | none => none
    | some x0 => match idx a0 (IntKind.wrap .i64 (a5 - (1 : Int))) with
      | none => none
      | some x1 => match lessW ((dget a0 (dnat a5) (0 : Int)), (dget a0 (dnat (IntKind.wrap .i64 (a5 - (1 : Int)))) (0 : Int)), ()) with
        | none => none
        | some (y2, _) => match (!y2) with
          | true => some (.inr (.inl (a0, a1, a2, a3, a4, ())))
          | false => match idx a0 (IntKind.wrap .i64 (a5 - (1 : Int))) with
            | none => none
            | some x3 => match idx a0 a5 with
              | none => none
              | some x4 => match idx a0 a5 with
                | none => none
                | some x5 => match idx (dset a0 (dnat a5) (dget a0 (dnat (IntKind.wrap .i64 (a5 - (1 : Int)))) (0 : Int))) (IntKind.wrap .i64 (a5 - (1 : Int))) with
                  | none => none
                  | some x6 => some (.inl ((dset (dset a0 (dnat a5) (dget a0 (dnat (IntKind.wrap .i64 (a5 - (1 : Int)))) (0 : Int))) (dnat (IntKind.wrap .i64 (a5 - (1 : Int)))) (dget a0 (dnat a5) (0 : Int))), a1, a2, a3, a4, (IntKind.wrap .i64 (a5 + (1 : Int))), ()))
  | false => some (.inr (.inl (a0, a1, a2, a3, a4, ())))
abbrev partInsW_i2 : Items := [(.obj 0, .own 34 (.int .u32)), (.tmp 0, .own' 0), (.tmp 1, .dat (.int .i64)), (.tmp 2, .dat (.int .i64)), (.tmp 7, .dat (.int .i64)), (.tmp 8, .dat (.int .i64)), (.tmp 9, .dat (.int .i64))]
abbrev partInsW_o2 : Outs := [(.exit 4, [(.obj 0, .own 34 (.int .u32)), (.tmp 0, .own' 0), (.tmp 1, .dat (.int .i64)), (.tmp 2, .dat (.int .i64)), (.tmp 7, .dat (.int .i64)), (.tmp 8, .dat (.int .i64))])]
def partInsW_s2 : (List Int × Int × Int × Int × Int × Int × Unit) → Option ((List Int × Int × Int × Int × Int × Int × Unit) ⊕ (List Int × Int × Int × Int × Int × Unit) ⊕ Unit) := fun (a0, a1, a2, a3, a4, a5, _) =>
  match (ile (1 : Int) a5) with
  | true => match idx a0 a5 with
    | none => none
    | some x0 => match idx a0 (IntKind.wrap .i64 (a5 - (1 : Int))) with
      | none => none
      | some x1 => match lessW ((dget a0 (dnat a5) (0 : Int)), (dget a0 (dnat (IntKind.wrap .i64 (a5 - (1 : Int)))) (0 : Int)), ()) with
        | none => none
        | some (y2, _) => match (!y2) with
          | true => some (.inr (.inl (a0, a1, a2, a3, a4, ())))
          | false => match idx a0 (IntKind.wrap .i64 (a5 - (1 : Int))) with
            | none => none
            | some x3 => match idx a0 a5 with
              | none => none
              | some x4 => match idx a0 a5 with
                | none => none
                | some x5 => match idx (dset a0 (dnat a5) (dget a0 (dnat (IntKind.wrap .i64 (a5 - (1 : Int)))) (0 : Int))) (IntKind.wrap .i64 (a5 - (1 : Int))) with
                  | none => none
                  | some x6 => some (.inl ((dset (dset a0 (dnat a5) (dget a0 (dnat (IntKind.wrap .i64 (a5 - (1 : Int)))) (0 : Int))) (dnat (IntKind.wrap .i64 (a5 - (1 : Int)))) (dget a0 (dnat a5) (0 : Int))), a1, a2, a3, a4, (IntKind.wrap .i64 (a5 - (1 : Int))), ()))
  | false => some (.inr (.inl (a0, a1, a2, a3, a4, ())))
abbrev partInsW_i1 : Items := [(.obj 0, .own 34 (.int .u32)), (.tmp 0, .own' 0), (.tmp 1, .dat (.int .i64)), (.tmp 2, .dat (.int .i64)), (.tmp 7, .dat (.int .i64)), (.tmp 8, .dat (.int .i64))]
abbrev partInsW_o1 : Outs := [(.exit 2, [(.obj 0, .own 34 (.int .u32)), (.tmp 0, .own' 0), (.tmp 1, .dat (.int .i64)), (.tmp 2, .dat (.int .i64)), (.tmp 7, .dat (.int .i64)), (.tmp 8, .dat (.int .i64))])]
def partInsW_s1 : (List Int × Int × Int × Int × Int × Unit) → Option ((List Int × Int × Int × Int × Int × Unit) ⊕ (List Int × Int × Int × Int × Int × Unit) ⊕ Unit) := fun (a0, a1, a2, a3, a4, _) =>
  match (ilt a3 a2) with
  | true => match idx a0 a3 with
    | none => none
    | some x0 => match idx a0 (IntKind.wrap .i64 (a3 - (1 : Int))) with
      | none => none
      | some x1 => match lessW ((dget a0 (dnat a3) (0 : Int)), (dget a0 (dnat (IntKind.wrap .i64 (a3 - (1 : Int)))) (0 : Int)), ()) with
        | none => none
        | some (y2, _) => match (!y2) with
          | true => some (.inl (a0, a1, a2, (IntKind.wrap .i64 (a3 + (1 : Int))), a4, ()))
          | false => some (.inr (.inl (a0, a1, a2, a3, a4, ())))
  | false => some (.inr (.inl (a0, a1, a2, a3, a4, ())))
abbrev partInsW_i0 : Items := [(.obj 0, .own 34 (.int .u32)), (.tmp 0, .own' 0), (.tmp 1, .dat (.int .i64)), (.tmp 2, .dat (.int .i64)), (.tmp 7, .dat (.int .i64)), (.tmp 8, .dat (.int .i64))]
abbrev partInsW_o0 : Outs := [(.ret, [(.obj 0, .own 34 (.int .u32)), (.tmp 6, .dat .bool)]), (.exit 0, [(.obj 0, .own 34 (.int .u32))])]
def partInsW_s0 : (List Int × Int × Int × Int × Int × Unit) → Option ((List Int × Int × Int × Int × Int × Unit) ⊕ (List Int × Bool × Unit) ⊕ (List Int × Unit) ⊕ Unit) := fun (a0, a1, a2, a3, a4, _) =>
  match (ilt a4 (5 : Int)) with
  | true => match iterL partInsW_s1 many (a0, a1, a2, a3, a4, ()) with
    | none => none
    | some r => match r with
      | .inl (o0, o1, o2, o3, o4, _) => match (ieq o3 o2) with
        | true => some (.inr (.inl (o0, true, ())))
        | false => match (ilt (IntKind.wrap .i64 (o2 - o1)) (50 : Int)) with
          | true => some (.inr (.inl (o0, false, ())))
          | false => match idx o0 (IntKind.wrap .i64 (o3 - (1 : Int))) with
            | none => none
            | some x5 => match idx o0 o3 with
              | none => none
              | some x6 => match idx o0 o3 with
                | none => none
                | some x7 => match idx (dset o0 (dnat o3) (dget o0 (dnat (IntKind.wrap .i64 (o3 - (1 : Int)))) (0 : Int))) (IntKind.wrap .i64 (o3 - (1 : Int))) with
                  | none => none
                  | some x8 => match (ile (2 : Int) (IntKind.wrap .i64 (o3 - o1))) with
                    | true => match iterL partInsW_s2 many ((dset (dset o0 (dnat o3) (dget o0 (dnat (IntKind.wrap .i64 (o3 - (1 : Int)))) (0 : Int))) (dnat (IntKind.wrap .i64 (o3 - (1 : Int)))) (dget o0 (dnat o3) (0 : Int))), o1, o2, o3, o4, (IntKind.wrap .i64 (o3 - (1 : Int))), ()) with
                      | none => none
                      | some r => match r with
                        | .inl (o9, o10, o11, o12, o13, _) => match (ile (2 : Int) (IntKind.wrap .i64 (o11 - o12))) with
                          | true => match iterL partInsW_s3 many (o9, o10, o11, o12, o13, (IntKind.wrap .i64 (o12 + (1 : Int))), ()) with
                            | none => none
                            | some r => match r with
                              | .inl (o14, o15, o16, o17, o18, _) => some (.inl (o14, o15, o16, o17, (IntKind.wrap .i64 (o18 + (1 : Int))), ()))
                              | .inr _ => none
                          | false => some (.inl (o9, o10, o11, o12, (IntKind.wrap .i64 (o13 + (1 : Int))), ()))
                        | .inr _ => none
                    | false => match (ile (2 : Int) (IntKind.wrap .i64 (o2 - o3))) with
                      | true => match iterL partInsW_s3 many ((dset (dset o0 (dnat o3) (dget o0 (dnat (IntKind.wrap .i64 (o3 - (1 : Int)))) (0 : Int))) (dnat (IntKind.wrap .i64 (o3 - (1 : Int)))) (dget o0 (dnat o3) (0 : Int))), o1, o2, o3, o4, (IntKind.wrap .i64 (o3 + (1 : Int))), ()) with
                        | none => none
                        | some r => match r with
                          | .inl (o19, o20, o21, o22, o23, _) => some (.inl (o19, o20, o21, o22, (IntKind.wrap .i64 (o23 + (1 : Int))), ()))
                          | .inr _ => none
                      | false => some (.inl ((dset (dset o0 (dnat o3) (dget o0 (dnat (IntKind.wrap .i64 (o3 - (1 : Int)))) (0 : Int))) (dnat (IntKind.wrap .i64 (o3 - (1 : Int)))) (dget o0 (dnat o3) (0 : Int))), o1, o2, o3, (IntKind.wrap .i64 (o4 + (1 : Int))), ()))
      | .inr _ => none
  | false => some (.inr (.inr (.inl (a0, ()))))
def partInsW_d : (List Int × Int × Int × Unit) → Option ((List Int × Bool × Unit)) := fun (a0, a1, a2, _) =>
  match iterL partInsW_s0 many (a0, a1, a2, (IntKind.wrap .i64 (a1 + (1 : Int))), (0 : Int), ()) with
  | none => none
  | some r => match r with
    | .inl (o0, o1, _) => some (o0, o1, ())
    | .inr r => match r with
      | .inl (o2, _) => some (o2, false, ())
      | .inr _ => none
def partInsW (v : (List Int × Int × Int × Unit)) : Option ((List Int × Bool × Unit)) := lock (partInsW_d v)
theorem partInsW_eq (v : (List Int × Int × Int × Unit)) : partInsW v = partInsW_d v := lock_eq _
def partInsW_s3C : (List Int × Int × Int × Int × Int × Int × Unit) → Option ((List Int × Int × Int × Int × Int × Int × Unit) ⊕ (List Int × Int × Int × Int × Int × Unit) ⊕ Unit) := fun (a0, a1, a2, a3, a4, a5, _) =>
  match (iltR a5 a2) with
  | true => match idxR a0 a5 with
    | none => none
    | some x0 => match idxR a0 (IntKind.wrap .i64 (a5 - (1 : Int))) with
      | none => none
      | some x1 => match lessWC ((dget a0 (dnat a5) (0 : Int)), (dget a0 (dnat (IntKind.wrap .i64 (a5 - (1 : Int)))) (0 : Int)), ()) with
        | none => none
        | some (y2, _) => match (!y2) with
          | true => some (.inr (.inl (a0, a1, a2, a3, a4, ())))
          | false => match idxR a0 (IntKind.wrap .i64 (a5 - (1 : Int))) with
            | none => none
            | some x3 => match idxR a0 a5 with
              | none => none
              | some x4 => match idxR a0 a5 with
                | none => none
                | some x5 => match idxR (dset a0 (dnat a5) (dget a0 (dnat (IntKind.wrap .i64 (a5 - (1 : Int)))) (0 : Int))) (IntKind.wrap .i64 (a5 - (1 : Int))) with
                  | none => none
                  | some x6 => some (.inl ((dset (dset a0 (dnat a5) (dget a0 (dnat (IntKind.wrap .i64 (a5 - (1 : Int)))) (0 : Int))) (dnat (IntKind.wrap .i64 (a5 - (1 : Int)))) (dget a0 (dnat a5) (0 : Int))), a1, a2, a3, a4, (IntKind.wrap .i64 (a5 + (1 : Int))), ()))
  | false => some (.inr (.inl (a0, a1, a2, a3, a4, ())))

theorem partInsW_s3_ceq : partInsW_s3 = partInsW_s3C := by
  funext v
  simp only [partInsW_s3, partInsW_s3C, idx_eq, ilt_eqR, lessW_ceq] <;> rfl

def partInsW_s2C : (List Int × Int × Int × Int × Int × Int × Unit) → Option ((List Int × Int × Int × Int × Int × Int × Unit) ⊕ (List Int × Int × Int × Int × Int × Unit) ⊕ Unit) := fun (a0, a1, a2, a3, a4, a5, _) =>
  match (ileR (1 : Int) a5) with
  | true => match idxR a0 a5 with
    | none => none
    | some x0 => match idxR a0 (IntKind.wrap .i64 (a5 - (1 : Int))) with
      | none => none
      | some x1 => match lessWC ((dget a0 (dnat a5) (0 : Int)), (dget a0 (dnat (IntKind.wrap .i64 (a5 - (1 : Int)))) (0 : Int)), ()) with
        | none => none
        | some (y2, _) => match (!y2) with
          | true => some (.inr (.inl (a0, a1, a2, a3, a4, ())))
          | false => match idxR a0 (IntKind.wrap .i64 (a5 - (1 : Int))) with
            | none => none
            | some x3 => match idxR a0 a5 with
              | none => none
              | some x4 => match idxR a0 a5 with
                | none => none
                | some x5 => match idxR (dset a0 (dnat a5) (dget a0 (dnat (IntKind.wrap .i64 (a5 - (1 : Int)))) (0 : Int))) (IntKind.wrap .i64 (a5 - (1 : Int))) with
                  | none => none
                  | some x6 => some (.inl ((dset (dset a0 (dnat a5) (dget a0 (dnat (IntKind.wrap .i64 (a5 - (1 : Int)))) (0 : Int))) (dnat (IntKind.wrap .i64 (a5 - (1 : Int)))) (dget a0 (dnat a5) (0 : Int))), a1, a2, a3, a4, (IntKind.wrap .i64 (a5 - (1 : Int))), ()))
  | false => some (.inr (.inl (a0, a1, a2, a3, a4, ())))

theorem partInsW_s2_ceq : partInsW_s2 = partInsW_s2C := by
  funext v
  simp only [partInsW_s2, partInsW_s2C, idx_eq, ile_eqR, lessW_ceq] <;> rfl

def partInsW_s1C : (List Int × Int × Int × Int × Int × Unit) → Option ((List Int × Int × Int × Int × Int × Unit) ⊕ (List Int × Int × Int × Int × Int × Unit) ⊕ Unit) := fun (a0, a1, a2, a3, a4, _) =>
  match (iltR a3 a2) with
  | true => match idxR a0 a3 with
    | none => none
    | some x0 => match idxR a0 (IntKind.wrap .i64 (a3 - (1 : Int))) with
      | none => none
      | some x1 => match lessWC ((dget a0 (dnat a3) (0 : Int)), (dget a0 (dnat (IntKind.wrap .i64 (a3 - (1 : Int)))) (0 : Int)), ()) with
        | none => none
        | some (y2, _) => match (!y2) with
          | true => some (.inl (a0, a1, a2, (IntKind.wrap .i64 (a3 + (1 : Int))), a4, ()))
          | false => some (.inr (.inl (a0, a1, a2, a3, a4, ())))
  | false => some (.inr (.inl (a0, a1, a2, a3, a4, ())))

theorem partInsW_s1_ceq : partInsW_s1 = partInsW_s1C := by
  funext v
  simp only [partInsW_s1, partInsW_s1C, idx_eq, ilt_eqR, lessW_ceq] <;> rfl

def partInsW_s0C : (List Int × Int × Int × Int × Int × Unit) → Option ((List Int × Int × Int × Int × Int × Unit) ⊕ (List Int × Bool × Unit) ⊕ (List Int × Unit) ⊕ Unit) := fun (a0, a1, a2, a3, a4, _) =>
  match (iltR a4 (5 : Int)) with
  | true => match iterO partInsW_s1C many (a0, a1, a2, a3, a4, ()) with
    | none => none
    | some r => match r with
      | .inl (o0, o1, o2, o3, o4, _) => match (ieqR o3 o2) with
        | true => some (.inr (.inl (o0, true, ())))
        | false => match (iltR (IntKind.wrap .i64 (o2 - o1)) (50 : Int)) with
          | true => some (.inr (.inl (o0, false, ())))
          | false => match idxR o0 (IntKind.wrap .i64 (o3 - (1 : Int))) with
            | none => none
            | some x5 => match idxR o0 o3 with
              | none => none
              | some x6 => match idxR o0 o3 with
                | none => none
                | some x7 => match idxR (dset o0 (dnat o3) (dget o0 (dnat (IntKind.wrap .i64 (o3 - (1 : Int)))) (0 : Int))) (IntKind.wrap .i64 (o3 - (1 : Int))) with
                  | none => none
                  | some x8 => match (ileR (2 : Int) (IntKind.wrap .i64 (o3 - o1))) with
                    | true => match iterO partInsW_s2C many ((dset (dset o0 (dnat o3) (dget o0 (dnat (IntKind.wrap .i64 (o3 - (1 : Int)))) (0 : Int))) (dnat (IntKind.wrap .i64 (o3 - (1 : Int)))) (dget o0 (dnat o3) (0 : Int))), o1, o2, o3, o4, (IntKind.wrap .i64 (o3 - (1 : Int))), ()) with
                      | none => none
                      | some r => match r with
                        | .inl (o9, o10, o11, o12, o13, _) => match (ileR (2 : Int) (IntKind.wrap .i64 (o11 - o12))) with
                          | true => match iterO partInsW_s3C many (o9, o10, o11, o12, o13, (IntKind.wrap .i64 (o12 + (1 : Int))), ()) with
                            | none => none
                            | some r => match r with
                              | .inl (o14, o15, o16, o17, o18, _) => some (.inl (o14, o15, o16, o17, (IntKind.wrap .i64 (o18 + (1 : Int))), ()))
                              | .inr _ => none
                          | false => some (.inl (o9, o10, o11, o12, (IntKind.wrap .i64 (o13 + (1 : Int))), ()))
                        | .inr _ => none
                    | false => match (ileR (2 : Int) (IntKind.wrap .i64 (o2 - o3))) with
                      | true => match iterO partInsW_s3C many ((dset (dset o0 (dnat o3) (dget o0 (dnat (IntKind.wrap .i64 (o3 - (1 : Int)))) (0 : Int))) (dnat (IntKind.wrap .i64 (o3 - (1 : Int)))) (dget o0 (dnat o3) (0 : Int))), o1, o2, o3, o4, (IntKind.wrap .i64 (o3 + (1 : Int))), ()) with
                        | none => none
                        | some r => match r with
                          | .inl (o19, o20, o21, o22, o23, _) => some (.inl (o19, o20, o21, o22, (IntKind.wrap .i64 (o23 + (1 : Int))), ()))
                          | .inr _ => none
                      | false => some (.inl ((dset (dset o0 (dnat o3) (dget o0 (dnat (IntKind.wrap .i64 (o3 - (1 : Int)))) (0 : Int))) (dnat (IntKind.wrap .i64 (o3 - (1 : Int)))) (dget o0 (dnat o3) (0 : Int))), o1, o2, o3, (IntKind.wrap .i64 (o4 + (1 : Int))), ()))
      | .inr _ => none
  | false => some (.inr (.inr (.inl (a0, ()))))

theorem partInsW_s0_ceq : partInsW_s0 = partInsW_s0C := by
  funext v
  simp only [partInsW_s0, partInsW_s0C, idx_eq, iterL_eq, ilt_eqR, ile_eqR, ieq_eqR, partInsW_s3_ceq, partInsW_s2_ceq, partInsW_s1_ceq] <;> rfl

def partInsW_dC : (List Int × Int × Int × Unit) → Option ((List Int × Bool × Unit)) := fun (a0, a1, a2, _) =>
  match iterO partInsW_s0C many (a0, a1, a2, (IntKind.wrap .i64 (a1 + (1 : Int))), (0 : Int), ()) with
  | none => none
  | some r => match r with
    | .inl (o0, o1, _) => some (o0, o1, ())
    | .inr r => match r with
      | .inl (o2, _) => some (o2, false, ())
      | .inr _ => none

theorem partInsW_d_ceq : partInsW_d = partInsW_dC := by
  funext v
  simp only [partInsW_d, partInsW_dC, iterL_eq, partInsW_s0_ceq] <;> rfl

def partInsWC (v : denL (leaves partInsW_i)) : Option (denL (leaves partInsW_o)) := partInsW_dC v

theorem partInsW_ceq : partInsW = partInsWC := by
  funext v
  rw [partInsW_eq, partInsW_d_ceq]; rfl


-- slices.partitionEqualOrdered[uint32]
abbrev partEqW_i : Items := [(.tmp 0, .own 34 (.int .u32)), (.tmp 1, .dat (.int .i64)), (.tmp 2, .dat (.int .i64)), (.tmp 3, .dat (.int .i64))]
abbrev partEqW_o : Items := [(.obj 0, .own 34 (.int .u32)), (.tmp 0, .dat (.int .i64))]
abbrev partEqW_r : List RS := [.one]
abbrev partEqW_i2 : Items := [(.obj 0, .own 34 (.int .u32)), (.tmp 0, .own' 0), (.tmp 1, .dat (.int .i64)), (.tmp 9, .dat (.int .i64)), (.tmp 10, .dat (.int .i64))]
abbrev partEqW_o2 : Outs := [(.exit 4, [(.obj 0, .own 34 (.int .u32)), (.tmp 0, .own' 0), (.tmp 1, .dat (.int .i64)), (.tmp 9, .dat (.int .i64)), (.tmp 10, .dat (.int .i64))])]
def partEqW_s2 : (List Int × Int × Int × Int × Unit) → Option ((List Int × Int × Int × Int × Unit) ⊕ (List Int × Int × Int × Int × Unit) ⊕ Unit) := fun (a0, a1, a2, a3, _) =>
  match (ile a2 a3) with
  | true => match idx a0 a1 with
    | none => none
    | some x0 => match idx a0 a3 with
      | none => none
      | some x1 => match lessW ((dget a0 (dnat a1) (0 : Int)), (dget a0 (dnat a3) (0 : Int)), ()) with
        | none => none
        | some (y2, _) => match y2 with
          | true => some (.inl (a0, a1, a2, (IntKind.wrap .i64 (a3 - (1 : Int))), ()))
          | false => some (.inr (.inl (a0, a1, a2, a3, ())))
  | false => some (.inr (.inl (a0, a1, a2, a3, ())))
abbrev partEqW_i1 : Items := [(.obj 0, .own 34 (.int .u32)), (.tmp 0, .own' 0), (.tmp 1, .dat (.int .i64)), (.tmp 9, .dat (.int .i64)), (.tmp 10, .dat (.int .i64))]
abbrev partEqW_o1 : Outs := [(.exit 2, [(.obj 0, .own 34 (.int .u32)), (.tmp 0, .own' 0), (.tmp 1, .dat (.int .i64)), (.tmp 9, .dat (.int .i64)), (.tmp 10, .dat (.int .i64))])]
def partEqW_s1 : (List Int × Int × Int × Int × Unit) → Option ((List Int × Int × Int × Int × Unit) ⊕ (List Int × Int × Int × Int × Unit) ⊕ Unit) := fun (a0, a1, a2, a3, _) =>
  match (ile a2 a3) with
  | true => match idx a0 a1 with
    | none => none
    | some x0 => match idx a0 a2 with
      | none => none
      | some x1 => match lessW ((dget a0 (dnat a1) (0 : Int)), (dget a0 (dnat a2) (0 : Int)), ()) with
        | none => none
        | some (y2, _) => match (!y2) with
          | true => some (.inl (a0, a1, (IntKind.wrap .i64 (a2 + (1 : Int))), a3, ()))
          | false => some (.inr (.inl (a0, a1, a2, a3, ())))
  | false => some (.inr (.inl (a0, a1, a2, a3, ())))
abbrev partEqW_i0 : Items := [(.obj 0, .own 34 (.int .u32)), (.tmp 0, .own' 0), (.tmp 1, .dat (.int .i64)), (.tmp 9, .dat (.int .i64)), (.tmp 10, .dat (.int .i64))]
abbrev partEqW_o0 : Outs := [(.exit 0, [(.obj 0, .own 34 (.int .u32)), (.tmp 9, .dat (.int .i64))])]
def partEqW_s0 : (List Int × Int × Int × Int × Unit) → Option ((List Int × Int × Int × Int × Unit) ⊕ (List Int × Int × Unit) ⊕ Unit) := fun (a0, a1, a2, a3, _) =>
  match iterL partEqW_s1 many (a0, a1, a2, a3, ()) with
  | none => none
  | some r => match r with
    | .inl (o0, o1, o2, o3, _) => match iterL partEqW_s2 many (o0, o1, o2, o3, ()) with
      | none => none
      | some r => match r with
        | .inl (o4, o5, o6, o7, _) => match (ilt o7 o6) with
          | true => some (.inr (.inl (o4, o6, ())))
          | false => match idx o4 o7 with
            | none => none
            | some x8 => match idx o4 o6 with
              | none => none
              | some x9 => match idx o4 o6 with
                | none => none
                | some x10 => match idx (dset o4 (dnat o6) (dget o4 (dnat o7) (0 : Int))) o7 with
                  | none => none
                  | some x11 => some (.inl ((dset (dset o4 (dnat o6) (dget o4 (dnat o7) (0 : Int))) (dnat o7) (dget o4 (dnat o6) (0 : Int))), o5, (IntKind.wrap .i64 (o6 + (1 : Int))), (IntKind.wrap .i64 (o7 - (1 : Int))), ()))
        | .inr _ => none
    | .inr _ => none
def partEqW_d : (List Int × Int × Int × Int × Unit) → Option ((List Int × Int × Unit)) := fun (a0, a1, a2, a3, _) =>
  match idx a0 a3 with
  | none => none
  | some x0 => match idx a0 a1 with
    | none => none
    | some x1 => match idx a0 a1 with
      | none => none
      | some x2 => match idx (dset a0 (dnat a1) (dget a0 (dnat a3) (0 : Int))) a3 with
        | none => none
        | some x3 => match iterL partEqW_s0 many ((dset (dset a0 (dnat a1) (dget a0 (dnat a3) (0 : Int))) (dnat a3) (dget a0 (dnat a1) (0 : Int))), a1, (IntKind.wrap .i64 (a1 + (1 : Int))), (IntKind.wrap .i64 (a2 - (1 : Int))), ()) with
          | none => none
          | some r => match r with
            | .inl (o4, o5, _) => some (o4, o5, ())
            | .inr _ => none
def partEqW (v : (List Int × Int × Int × Int × Unit)) : Option ((List Int × Int × Unit)) := lock (partEqW_d v)
theorem partEqW_eq (v : (List Int × Int × Int × Int × Unit)) : partEqW v = partEqW_d v := lock_eq _
def partEqW_s2C : (List Int × Int × Int × Int × Unit) → Option ((List Int × Int × Int × Int × Unit) ⊕ (List Int × Int × Int × Int × Unit) ⊕ Unit) := fun (a0, a1, a2, a3, _) =>
  match (ileR a2 a3) with
  | true => match idxR a0 a1 with
    | none => none
    | some x0 => match idxR a0 a3 with
      | none => none
      | some x1 => match lessWC ((dget a0 (dnat a1) (0 : Int)), (dget a0 (dnat a3) (0 : Int)), ()) with
        | none => none
        | some (y2, _) => match y2 with
          | true => some (.inl (a0, a1, a2, (IntKind.wrap .i64 (a3 - (1 : Int))), ()))
          | false => some (.inr (.inl (a0, a1, a2, a3, ())))
  | false => some (.inr (.inl (a0, a1, a2, a3, ())))

theorem partEqW_s2_ceq : partEqW_s2 = partEqW_s2C := by
  funext v
  simp only [partEqW_s2, partEqW_s2C, idx_eq, ile_eqR, lessW_ceq] <;> rfl

def partEqW_s1C : (List Int × Int × Int × Int × Unit) → Option ((List Int × Int × Int × Int × Unit) ⊕ (List Int × Int × Int × Int × Unit) ⊕ Unit) := fun (a0, a1, a2, a3, _) =>
  match (ileR a2 a3) with
  | true => match idxR a0 a1 with
    | none => none
    | some x0 => match idxR a0 a2 with
      | none => none
      | some x1 => match lessWC ((dget a0 (dnat a1) (0 : Int)), (dget a0 (dnat a2) (0 : Int)), ()) with
        | none => none
        | some (y2, _) => match (!y2) with
          | true => some (.inl (a0, a1, (IntKind.wrap .i64 (a2 + (1 : Int))), a3, ()))
          | false => some (.inr (.inl (a0, a1, a2, a3, ())))
  | false => some (.inr (.inl (a0, a1, a2, a3, ())))

theorem partEqW_s1_ceq : partEqW_s1 = partEqW_s1C := by
  funext v
  simp only [partEqW_s1, partEqW_s1C, idx_eq, ile_eqR, lessW_ceq] <;> rfl

def partEqW_s0C : (List Int × Int × Int × Int × Unit) → Option ((List Int × Int × Int × Int × Unit) ⊕ (List Int × Int × Unit) ⊕ Unit) := fun (a0, a1, a2, a3, _) =>
  match iterO partEqW_s1C many (a0, a1, a2, a3, ()) with
  | none => none
  | some r => match r with
    | .inl (o0, o1, o2, o3, _) => match iterO partEqW_s2C many (o0, o1, o2, o3, ()) with
      | none => none
      | some r => match r with
        | .inl (o4, o5, o6, o7, _) => match (iltR o7 o6) with
          | true => some (.inr (.inl (o4, o6, ())))
          | false => match idxR o4 o7 with
            | none => none
            | some x8 => match idxR o4 o6 with
              | none => none
              | some x9 => match idxR o4 o6 with
                | none => none
                | some x10 => match idxR (dset o4 (dnat o6) (dget o4 (dnat o7) (0 : Int))) o7 with
                  | none => none
                  | some x11 => some (.inl ((dset (dset o4 (dnat o6) (dget o4 (dnat o7) (0 : Int))) (dnat o7) (dget o4 (dnat o6) (0 : Int))), o5, (IntKind.wrap .i64 (o6 + (1 : Int))), (IntKind.wrap .i64 (o7 - (1 : Int))), ()))
        | .inr _ => none
    | .inr _ => none

theorem partEqW_s0_ceq : partEqW_s0 = partEqW_s0C := by
  funext v
  simp only [partEqW_s0, partEqW_s0C, idx_eq, iterL_eq, ilt_eqR, partEqW_s2_ceq, partEqW_s1_ceq] <;> rfl

def partEqW_dC : (List Int × Int × Int × Int × Unit) → Option ((List Int × Int × Unit)) := fun (a0, a1, a2, a3, _) =>
  match idxR a0 a3 with
  | none => none
  | some x0 => match idxR a0 a1 with
    | none => none
    | some x1 => match idxR a0 a1 with
      | none => none
      | some x2 => match idxR (dset a0 (dnat a1) (dget a0 (dnat a3) (0 : Int))) a3 with
        | none => none
        | some x3 => match iterO partEqW_s0C many ((dset (dset a0 (dnat a1) (dget a0 (dnat a3) (0 : Int))) (dnat a3) (dget a0 (dnat a1) (0 : Int))), a1, (IntKind.wrap .i64 (a1 + (1 : Int))), (IntKind.wrap .i64 (a2 - (1 : Int))), ()) with
          | none => none
          | some r => match r with
            | .inl (o4, o5, _) => some (o4, o5, ())
            | .inr _ => none

theorem partEqW_d_ceq : partEqW_d = partEqW_dC := by
  funext v
  simp only [partEqW_d, partEqW_dC, idx_eq, iterL_eq, partEqW_s0_ceq] <;> rfl

def partEqWC (v : denL (leaves partEqW_i)) : Option (denL (leaves partEqW_o)) := partEqW_dC v

theorem partEqW_ceq : partEqW = partEqWC := by
  funext v
  rw [partEqW_eq, partEqW_d_ceq]; rfl


-- slices.partitionOrdered[uint32]
abbrev partW_i : Items := [(.tmp 0, .own 34 (.int .u32)), (.tmp 1, .dat (.int .i64)), (.tmp 2, .dat (.int .i64)), (.tmp 3, .dat (.int .i64))]
abbrev partW_o : Items := [(.obj 0, .own 34 (.int .u32)), (.tmp 0, .dat (.int .i64)), (.tmp 1, .dat .bool)]
abbrev partW_r : List RS := [.one, .one]
abbrev partW_i4 : Items := [(.obj 0, .own 34 (.int .u32)), (.tmp 0, .own' 0), (.tmp 1, .dat (.int .i64)), (.tmp 10, .dat (.int .i64)), (.tmp 11, .dat (.int .i64))]
abbrev partW_o4 : Outs := [(.exit 8, [(.obj 0, .own 34 (.int .u32)), (.tmp 0, .own' 0), (.tmp 1, .dat (.int .i64)), (.tmp 10, .dat (.int .i64)), (.tmp 11, .dat (.int .i64))])]
def partW_s4 : (List Int × Int × Int × Int × Unit) → Option ((List Int × Int × Int × Int × Unit) ⊕ (List Int × Int × Int × Int × Unit) ⊕ Unit) := fun (a0, a1, a2, a3, _) =>
  match (ile a2 a3) with
  | true => match idx a0 a3 with
    | none => none
    | some x0 => match idx a0 a1 with
      | none => none
      | some x1 => match lessW ((dget a0 (dnat a3) (0 : Int)), (dget a0 (dnat a1) (0 : Int)), ()) with
        | none => none
        | some (y2, _) => match (!y2) with
          | true => some (.inl (a0, a1, a2, (IntKind.wrap .i64 (a3 - (1 : Int))), ()))
          | false => some (.inr (.inl (a0, a1, a2, a3, ())))
  | false => some (.inr (.inl (a0, a1, a2, a3, ())))
abbrev partW_i3 : Items := [(.obj 0, .own 34 (.int .u32)), (.tmp 0, .own' 0), (.tmp 1, .dat (.int .i64)), (.tmp 10, .dat (.int .i64)), (.tmp 11, .dat (.int .i64))]
abbrev partW_o3 : Outs := [(.exit 6, [(.obj 0, .own 34 (.int .u32)), (.tmp 0, .own' 0), (.tmp 1, .dat (.int .i64)), (.tmp 10, .dat (.int .i64)), (.tmp 11, .dat (.int .i64))])]
def partW_s3 : (List Int × Int × Int × Int × Unit) → Option ((List Int × Int × Int × Int × Unit) ⊕ (List Int × Int × Int × Int × Unit) ⊕ Unit) := fun (a0, a1, a2, a3, _) =>
  match (ile a2 a3) with
  | true => match idx a0 a2 with
    | none => none
    | some x0 => match idx a0 a1 with
      | none => none
      | some x1 => match lessW ((dget a0 (dnat a2) (0 : Int)), (dget a0 (dnat a1) (0 : Int)), ()) with
        | none => none
        | some (y2, _) => match y2 with
          | true => some (.inl (a0, a1, (IntKind.wrap .i64 (a2 + (1 : Int))), a3, ()))
          | false => some (.inr (.inl (a0, a1, a2, a3, ())))
  | false => some (.inr (.inl (a0, a1, a2, a3, ())))
abbrev partW_i2 : Items := [(.obj 0, .own 34 (.int .u32)), (.tmp 0, .own' 0), (.tmp 1, .dat (.int .i64)), (.tmp 10, .dat (.int .i64)), (.tmp 11, .dat (.int .i64))]
abbrev partW_o2 : Outs := [(.exit 4, [(.obj 0, .own 34 (.int .u32)), (.tmp 0, .own' 0), (.tmp 1, .dat (.int .i64)), (.tmp 11, .dat (.int .i64))])]
def partW_s2 : (List Int × Int × Int × Int × Unit) → Option ((List Int × Int × Int × Int × Unit) ⊕ (List Int × Int × Int × Unit) ⊕ Unit) := fun (a0, a1, a2, a3, _) =>
  match iterL partW_s3 many (a0, a1, a2, a3, ()) with
  | none => none
  | some r => match r with
    | .inl (o0, o1, o2, o3, _) => match iterL partW_s4 many (o0, o1, o2, o3, ()) with
      | none => none
      | some r => match r with
        | .inl (o4, o5, o6, o7, _) => match (ilt o7 o6) with
          | true => some (.inr (.inl (o4, o5, o7, ())))
          | false => match idx o4 o7 with
            | none => none
            | some x8 => match idx o4 o6 with
              | none => none
              | some x9 => match idx o4 o6 with
                | none => none
                | some x10 => match idx (dset o4 (dnat o6) (dget o4 (dnat o7) (0 : Int))) o7 with
                  | none => none
                  | some x11 => some (.inl ((dset (dset o4 (dnat o6) (dget o4 (dnat o7) (0 : Int))) (dnat o7) (dget o4 (dnat o6) (0 : Int))), o5, (IntKind.wrap .i64 (o6 + (1 : Int))), (IntKind.wrap .i64 (o7 - (1 : Int))), ()))
        | .inr _ => none
    | .inr _ => none
abbrev partW_i1 : Items := [(.obj 0, .own 34 (.int .u32)), (.tmp 0, .own' 0), (.tmp 1, .dat (.int .i64)), (.tmp 10, .dat (.int .i64)), (.tmp 11, .dat (.int .i64))]
abbrev partW_o1 : Outs := [(.exit 2, [(.obj 0, .own 34 (.int .u32)), (.tmp 0, .own' 0), (.tmp 1, .dat (.int .i64)), (.tmp 10, .dat (.int .i64)), (.tmp 11, .dat (.int .i64))])]
def partW_s1 : (List Int × Int × Int × Int × Unit) → Option ((List Int × Int × Int × Int × Unit) ⊕ (List Int × Int × Int × Int × Unit) ⊕ Unit) := fun (a0, a1, a2, a3, _) =>
  match (ile a2 a3) with
  | true => match idx a0 a3 with
    | none => none
    | some x0 => match idx a0 a1 with
      | none => none
      | some x1 => match lessW ((dget a0 (dnat a3) (0 : Int)), (dget a0 (dnat a1) (0 : Int)), ()) with
        | none => none
        | some (y2, _) => match (!y2) with
          | true => some (.inl (a0, a1, a2, (IntKind.wrap .i64 (a3 - (1 : Int))), ()))
          | false => some (.inr (.inl (a0, a1, a2, a3, ())))
  | false => some (.inr (.inl (a0, a1, a2, a3, ())))
abbrev partW_i0 : Items := [(.obj 0, .own 34 (.int .u32)), (.tmp 0, .own' 0), (.tmp 1, .dat (.int .i64)), (.tmp 10, .dat (.int .i64)), (.tmp 11, .dat (.int .i64))]
abbrev partW_o0 : Outs := [(.exit 0, [(.obj 0, .own 34 (.int .u32)), (.tmp 0, .own' 0), (.tmp 1, .dat (.int .i64)), (.tmp 10, .dat (.int .i64)), (.tmp 11, .dat (.int .i64))])]
def partW_s0 : (List Int × Int × Int × Int × Unit) → Option ((List Int × Int × Int × Int × Unit) ⊕ (List Int × Int × Int × Int × Unit) ⊕ Unit) := fun (a0, a1, a2, a3, _) =>
  match (ile a2 a3) with
  | true => match idx a0 a2 with
    | none => none
    | some x0 => match idx a0 a1 with
      | none => none
      | some x1 => match lessW ((dget a0 (dnat a2) (0 : Int)), (dget a0 (dnat a1) (0 : Int)), ()) with
        | none => none
        | some (y2, _) => match y2 with
          | true => some (.inl (a0, a1, (IntKind.wrap .i64 (a2 + (1 : Int))), a3, ()))
          | false => some (.inr (.inl (a0, a1, a2, a3, ())))
  | false => some (.inr (.inl (a0, a1, a2, a3, ())))
def partW_d : (List Int × Int × Int × Int × Unit) → Option ((List Int × Int × Bool × Unit)) := fun (a0, a1, a2, a3, _) =>
  match idx a0 a3 with
  | none => none
  | some x0 => match idx a0 a1 with
    | none => none
    | some x1 => match idx a0 a1 with
      | none => none
      | some x2 => match idx (dset a0 (dnat a1) (dget a0 (dnat a3) (0 : Int))) a3 with
        | none => none
        | some x3 => match iterL partW_s0 many ((dset (dset a0 (dnat a1) (dget a0 (dnat a3) (0 : Int))) (dnat a3) (dget a0 (dnat a1) (0 : Int))), a1, (IntKind.wrap .i64 (a1 + (1 : Int))), (IntKind.wrap .i64 (a2 - (1 : Int))), ()) with
          | none => none
          | some r => match r with
            | .inl (o4, o5, o6, o7, _) => match iterL partW_s1 many (o4, o5, o6, o7, ()) with
              | none => none
              | some r => match r with
                | .inl (o8, o9, o10, o11, _) => match (ilt o11 o10) with
                  | true => match idx o8 o9 with
                    | none => none
                    | some x12 => match idx o8 o11 with
                      | none => none
                      | some x13 => match idx o8 o11 with
                        | none => none
                        | some x14 => match idx (dset o8 (dnat o11) (dget o8 (dnat o9) (0 : Int))) o9 with
                          | none => none
                          | some x15 => some ((dset (dset o8 (dnat o11) (dget o8 (dnat o9) (0 : Int))) (dnat o9) (dget o8 (dnat o11) (0 : Int))), o11, true, ())
                  | false => match idx o8 o11 with
                    | none => none
                    | some x16 => match idx o8 o10 with
                      | none => none
                      | some x17 => match idx o8 o10 with
                        | none => none
                        | some x18 => match idx (dset o8 (dnat o10) (dget o8 (dnat o11) (0 : Int))) o11 with
                          | none => none
                          | some x19 => match iterL partW_s2 many ((dset (dset o8 (dnat o10) (dget o8 (dnat o11) (0 : Int))) (dnat o11) (dget o8 (dnat o10) (0 : Int))), o9, (IntKind.wrap .i64 (o10 + (1 : Int))), (IntKind.wrap .i64 (o11 - (1 : Int))), ()) with
                            | none => none
                            | some r => match r with
                              | .inl (o20, o21, o22, _) => match idx o20 o21 with
                                | none => none
                                | some x23 => match idx o20 o22 with
                                  | none => none
                                  | some x24 => match idx o20 o22 with
                                    | none => none
                                    | some x25 => match idx (dset o20 (dnat o22) (dget o20 (dnat o21) (0 : Int))) o21 with
                                      | none => none
                                      | some x26 => some ((dset (dset o20 (dnat o22) (dget o20 (dnat o21) (0 : Int))) (dnat o21) (dget o20 (dnat o22) (0 : Int))), o22, false, ())
                              | .inr _ => none
                | .inr _ => none
            | .inr _ => none
def partW (v : (List Int × Int × Int × Int × Unit)) : Option ((List Int × Int × Bool × Unit)) := lock (partW_d v)
theorem partW_eq (v : (List Int × Int × Int × Int × Unit)) : partW v = partW_d v := lock_eq _
def partW_s4C : (List Int × Int × Int × Int × Unit) → Option ((List Int × Int × Int × Int × Unit) ⊕ (List Int × Int × Int × Int × Unit) ⊕ Unit) := fun (a0, a1, a2, a3, _) =>
  match (ileR a2 a3) with
  | true => match idxR a0 a3 with
    | none => none
    | some x0 => match idxR a0 a1 with
      | none => none
      | some x1 => match lessWC ((dget a0 (dnat a3) (0 : Int)), (dget a0 (dnat a1) (0 : Int)), ()) with
        | none => none
        | some (y2, _) => match (!y2) with
          | true => some (.inl (a0, a1, a2, (IntKind.wrap .i64 (a3 - (1 : Int))), ()))
          | false => some (.inr (.inl (a0, a1, a2, a3, ())))
  | false => some (.inr (.inl (a0, a1, a2, a3, ())))

theorem partW_s4_ceq : partW_s4 = partW_s4C := by
  funext v
  simp only [partW_s4, partW_s4C, idx_eq, ile_eqR, lessW_ceq] <;> rfl

def partW_s3C : (List Int × Int × Int × Int × Unit) → Option ((List Int × Int × Int × Int × Unit) ⊕ (List Int × Int × Int × Int × Unit) ⊕ Unit) := fun (a0, a1, a2, a3, _) =>
  match (ileR a2 a3) with
  | true => match idxR a0 a2 with
    | none => none
    | some x0 => match idxR a0 a1 with
      | none => none
      | some x1 => match lessWC ((dget a0 (dnat a2) (0 : Int)), (dget a0 (dnat a1) (0 : Int)), ()) with
        | none => none
        | some (y2, _) => match y2 with
          | true => some (.inl (a0, a1, (IntKind.wrap .i64 (a2 + (1 : Int))), a3, ()))
          | false => some (.inr (.inl (a0, a1, a2, a3, ())))
  | false => some (.inr (.inl (a0, a1, a2, a3, ())))

theorem partW_s3_ceq : partW_s3 = partW_s3C := by
  funext v
  simp only [partW_s3, partW_s3C, idx_eq, ile_eqR, lessW_ceq] <;> rfl

def partW_s2C : (List Int × Int × Int × Int × Unit) → Option ((List Int × Int × Int × Int × Unit) ⊕ (List Int × Int × Int × Unit) ⊕ Unit) := fun (a0, a1, a2, a3, _) =>
  match iterO partW_s3C many (a0, a1, a2, a3, ()) with
  | none => none
  | some r => match r with
    | .inl (o0, o1, o2, o3, _) => match iterO partW_s4C many (o0, o1, o2, o3, ()) with
      | none => none
      | some r => match r with
        | .inl (o4, o5, o6, o7, _) => match (iltR o7 o6) with
          | true => some (.inr (.inl (o4, o5, o7, ())))
          | false => match idxR o4 o7 with
            | none => none
            | some x8 => match idxR o4 o6 with
              | none => none
              | some x9 => match idxR o4 o6 with
                | none => none
                | some x10 => match idxR (dset o4 (dnat o6) (dget o4 (dnat o7) (0 : Int))) o7 with
                  | none => none
                  | some x11 => some (.inl ((dset (dset o4 (dnat o6) (dget o4 (dnat o7) (0 : Int))) (dnat o7) (dget o4 (dnat o6) (0 : Int))), o5, (IntKind.wrap .i64 (o6 + (1 : Int))), (IntKind.wrap .i64 (o7 - (1 : Int))), ()))
        | .inr _ => none
    | .inr _ => none

theorem partW_s2_ceq : partW_s2 = partW_s2C := by
  funext v
  simp only [partW_s2, partW_s2C, idx_eq, iterL_eq, ilt_eqR, partW_s4_ceq, partW_s3_ceq] <;> rfl

def partW_s1C : (List Int × Int × Int × Int × Unit) → Option ((List Int × Int × Int × Int × Unit) ⊕ (List Int × Int × Int × Int × Unit) ⊕ Unit) := fun (a0, a1, a2, a3, _) =>
  match (ileR a2 a3) with
  | true => match idxR a0 a3 with
    | none => none
    | some x0 => match idxR a0 a1 with
      | none => none
      | some x1 => match lessWC ((dget a0 (dnat a3) (0 : Int)), (dget a0 (dnat a1) (0 : Int)), ()) with
        | none => none
        | some (y2, _) => match (!y2) with
          | true => some (.inl (a0, a1, a2, (IntKind.wrap .i64 (a3 - (1 : Int))), ()))
          | false => some (.inr (.inl (a0, a1, a2, a3, ())))
  | false => some (.inr (.inl (a0, a1, a2, a3, ())))

theorem partW_s1_ceq : partW_s1 = partW_s1C := by
  funext v
  simp only [partW_s1, partW_s1C, idx_eq, ile_eqR, lessW_ceq] <;> rfl

def partW_s0C : (List Int × Int × Int × Int × Unit) → Option ((List Int × Int × Int × Int × Unit) ⊕ (List Int × Int × Int × Int × Unit) ⊕ Unit) := fun (a0, a1, a2, a3, _) =>
  match (ileR a2 a3) with
  | true => match idxR a0 a2 with
    | none => none
    | some x0 => match idxR a0 a1 with
      | none => none
      | some x1 => match lessWC ((dget a0 (dnat a2) (0 : Int)), (dget a0 (dnat a1) (0 : Int)), ()) with
        | none => none
        | some (y2, _) => match y2 with
          | true => some (.inl (a0, a1, (IntKind.wrap .i64 (a2 + (1 : Int))), a3, ()))
          | false => some (.inr (.inl (a0, a1, a2, a3, ())))
  | false => some (.inr (.inl (a0, a1, a2, a3, ())))

theorem partW_s0_ceq : partW_s0 = partW_s0C := by
  funext v
  simp only [partW_s0, partW_s0C, idx_eq, ile_eqR, lessW_ceq] <;> rfl

def partW_dC : (List Int × Int × Int × Int × Unit) → Option ((List Int × Int × Bool × Unit)) := fun (a0, a1, a2, a3, _) =>
  match idxR a0 a3 with
  | none => none
  | some x0 => match idxR a0 a1 with
    | none => none
    | some x1 => match idxR a0 a1 with
      | none => none
      | some x2 => match idxR (dset a0 (dnat a1) (dget a0 (dnat a3) (0 : Int))) a3 with
        | none => none
        | some x3 => match iterO partW_s0C many ((dset (dset a0 (dnat a1) (dget a0 (dnat a3) (0 : Int))) (dnat a3) (dget a0 (dnat a1) (0 : Int))), a1, (IntKind.wrap .i64 (a1 + (1 : Int))), (IntKind.wrap .i64 (a2 - (1 : Int))), ()) with
          | none => none
          | some r => match r with
            | .inl (o4, o5, o6, o7, _) => match iterO partW_s1C many (o4, o5, o6, o7, ()) with
              | none => none
              | some r => match r with
                | .inl (o8, o9, o10, o11, _) => match (iltR o11 o10) with
                  | true => match idxR o8 o9 with
                    | none => none
                    | some x12 => match idxR o8 o11 with
                      | none => none
                      | some x13 => match idxR o8 o11 with
                        | none => none
                        | some x14 => match idxR (dset o8 (dnat o11) (dget o8 (dnat o9) (0 : Int))) o9 with
                          | none => none
                          | some x15 => some ((dset (dset o8 (dnat o11) (dget o8 (dnat o9) (0 : Int))) (dnat o9) (dget o8 (dnat o11) (0 : Int))), o11, true, ())
                  | false => match idxR o8 o11 with
                    | none => none
                    | some x16 => match idxR o8 o10 with
                      | none => none
                      | some x17 => match idxR o8 o10 with
                        | none => none
                        | some x18 => match idxR (dset o8 (dnat o10) (dget o8 (dnat o11) (0 : Int))) o11 with
                          | none => none
                          | some x19 => match iterO partW_s2C many ((dset (dset o8 (dnat o10) (dget o8 (dnat o11) (0 : Int))) (dnat o11) (dget o8 (dnat o10) (0 : Int))), o9, (IntKind.wrap .i64 (o10 + (1 : Int))), (IntKind.wrap .i64 (o11 - (1 : Int))), ()) with
                            | none => none
                            | some r => match r with
                              | .inl (o20, o21, o22, _) => match idxR o20 o21 with
                                | none => none
                                | some x23 => match idxR o20 o22 with
                                  | none => none
                                  | some x24 => match idxR o20 o22 with
                                    | none => none
                                    | some x25 => match idxR (dset o20 (dnat o22) (dget o20 (dnat o21) (0 : Int))) o21 with
                                      | none => none
                                      | some x26 => some ((dset (dset o20 (dnat o22) (dget o20 (dnat o21) (0 : Int))) (dnat o21) (dget o20 (dnat o22) (0 : Int))), o22, false, ())
                              | .inr _ => none
                | .inr _ => none
            | .inr _ => none

theorem partW_d_ceq : partW_d = partW_dC := by
  funext v
  simp only [partW_d, partW_dC, idx_eq, iterL_eq, ilt_eqR, partW_s2_ceq, partW_s1_ceq, partW_s0_ceq] <;> rfl

def partWC (v : denL (leaves partW_i)) : Option (denL (leaves partW_o)) := partW_dC v

theorem partW_ceq : partW = partWC := by
  funext v
  rw [partW_eq, partW_d_ceq]; rfl


end
end Go.Pev
end
