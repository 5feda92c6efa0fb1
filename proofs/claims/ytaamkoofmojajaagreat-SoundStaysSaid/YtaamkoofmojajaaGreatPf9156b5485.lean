/- A part of the proofs of this seat: G24M1 G24M2 G24M3 G24M4 G24M5 G24M Pln PlnB T18a. -/
import Derived.Test.YtaamkoofmojajaaGreatP4018640f6d
import Derived.IntWalk
import Derived.Sort.AssemblyPlain
set_option linter.unusedVariables false
set_option linter.unusedSimpArgs false
set_option linter.unusedSectionVars false
section
namespace Go.Pev
set_option maxRecDepth 100000
noncomputable section
attribute [local irreducible] Nx J8 Oz Nn AeU AeV AeW QR AAe Zu Zt L0 AW many IntKind.wrap AO Ap AS Aq DG DU JK AJ CZ CF imax Ad Al
abbrev U0 : Ty := (.prod (.int .i64) (.prod (.int .i64) (.prod (.int .i64) (.prod .bool .unit))))
abbrev U1 := (Int × Int × Int × Bool × Unit)
abbrev U2 : Ty := (.int .i64)
abbrev U3 := (Int × Int × Unit)
abbrev U4 := (List Int)
abbrev U5 : Ty := (.prod U2 (.prod U2 .unit))
abbrev U6 : Ty := (.slice U2)
abbrev U7 := (List U4 × Int × Int × Int × Unit)
abbrev U8 := (Int × Unit)
abbrev U9 : Ty := (.prod U2 (.prod (.slice U6) .unit))
abbrev Ua : Ty := (.prod U2 (.prod (.slice U0) .unit))
abbrev Ub := (Int × (List U4) × Unit)
abbrev Uc := (Int × (List U1) × Unit)
abbrev Ud := (List U1 × Int × Int × Int × Unit)
abbrev Ue := (List U4 × Int × Int × Unit)
abbrev Uf := (Bool × Unit)
abbrev Ug := (Int × Bool × Bool × Int × Int × Int × Int × Int × Int × Bool × Int × List U1 × Bool × Bool × Int × Int × Int × Int × Int × List Int × Int × Bool × Unit)
abbrev Uh := (List U4 × Int × Int × Int × Int × Unit)
abbrev Ui : Ty := (.slice U6)
abbrev Uj := (List U4 × Unit)
abbrev Uk := (List Int × Int × Int × Unit)
abbrev Ul : Ty := (.slice U5)
abbrev Um := (List Int × Unit)
abbrev Un : Ty := (.slice U0)
abbrev Uo := (List Int × Int × Unit)
abbrev Up := (List U1 × Int × Int × Int × Int × Unit)
abbrev Uq := (List U1 × Unit)
abbrev Ur := (Bool × Bool × U3 × Int × Unit)
abbrev Us := (List U1 × Int × Int × Unit)
abbrev Ut := (Int × List U1 × Int × Int × Unit)
abbrev Uu := (List U4 × Int × Int × Int × Int × Int × Unit)
abbrev Uv := (Int × List U4 × List Bool × Int × Int × Int × List Int × Int × List Int × Int × Bool × Int × List Int × Bool × Bool × List Int × List Int × List U4 × List Int × List U4 × Bool × Bool × List Int × Int × Int × Bool × Unit)
abbrev Uw := (Int × List U4 × List (Int × Int) × Int × List U4 × Int × Int × List Int × Int × Int × Bool × List Int × Bool × Bool × List Int × Int × List Int × Int × Bool × Int × List Int × Bool × Bool × List Int × Int × Int × Unit)
abbrev Ux := (Int × List Int × Int × List Int × Int × Bool × Bool × Bool × Bool × Int × Int × Bool × Int × Int × Int × Int × Int × Bool × Int × Int × Int × Int × Int × Int × Int × Int × Int × Bool × Unit)
abbrev Uy : Ty := (.prod .bool (.prod .bool (.prod U5 (.prod U2 .unit))))
abbrev Uz := (List U3 × Unit)
abbrev V0 := (Int × Int)
abbrev V1 := (Int × List U4 × Int × Unit)
abbrev V2 := (Int × List U1 × List U3 × Int × Unit)
abbrev V3 := (Int × List U3 × Unit)
abbrev V4 := (Uc × Unit)
abbrev V5 := (Int × Bool × Bool × Int × Int × Int × Int × Int × Int × Bool × Int × List U1 × Bool × Bool × Int × Int × Int × Int × Int × Unit)
abbrev V6 := (List U3 × List U3 × List U3 × Int × Unit)
abbrev V7 := (List U3 × Int × List U1 × Int × Unit)
abbrev V8 := (Ub × Int × Unit)
abbrev V9 := (List U4 × Int × Unit)
abbrev Va := (Uc × List U3 × Unit)
abbrev Vb := (List U1 × Int × Int × Int × Bool × Int × Unit)
abbrev Vc := (Int × List U1 × List Ub × Int × Int × Unit)
abbrev Vd := (Int × List Int × Unit)
abbrev Ve := (U7 ⊕ U7 ⊕ Unit)
abbrev Vf := (List Int × List U4 × Int × List U4 × Int × List U4 × List U4 × Int × Int × Unit)
abbrev Vg := (Int × List U1 × List Ub × Int × Int × List U4 × Int × Int × Int × Int × Unit)
abbrev Vh := (Ub × List U3 × Unit)
abbrev Vi := (Int × List U3 × List Int × Bool × Unit)
abbrev Vj := (Int × List U3 × List U3 × Int × Unit)
abbrev AB8 : AE := [(.tmp 0, .dat U6), (.tmp 1, .dat U6)]
abbrev AB7 : AE := [(.tmp 0, .dat .bool)]
abbrev AB6 : List RS := [.one]
abbrev AGa : AE := [(.tmp 0, .dat U6), (.tmp 1, .dat U6), (.tmp 5, .di)]
abbrev AGZ : Am := [(.ret, [(.tmp 4, .dat .bool)]), (.exit 0, [])]
def ED [Lk] : (List Int × List Int × Int × Unit) → Option ((List Int × List Int × Int × Unit) ⊕ Uf ⊕ (Unit) ⊕ Unit) := fun (a0, a1, a2, _) =>
 match (ilt a2 (AO a0)) with
 | true => match idx a0 a2 with
  | none => none
  | some x0 => match idx a1 a2 with
  | none => none
  | some x1 => match (!(ieq x0 x1)) with
  | true => some (.inr (.inl (false, ())))
  | false => some (.inl (a0, a1, (IntKind.wrap .i64 (a2 + 1)), ()))
 | false => some (.inr (.inr (.inl ())))
def Qo [Lk] : (List Int × List Int × Unit) → Option (Uf) := fun (a0, a1, _) =>
 match (!(ieq (AO a0) (AO a1))) with
 | true => some (false, ())
 | false => match AT ED many (a0, a1, 0, ()) with
 | none => none
 | some r => match r with
 | .inl (o0, _) => some (o0, ())
 | .inr r => match r with
 | .inl _ => some (true, ())
 | .inr _ => none
def ACA [Lk] := fun v => Lk.f (Qo v)
theorem AGb v : ACA v = Qo v := AK _
abbrev YR : AE := [(.tmp 0, .di)]
abbrev YQ : AE := [(.tmp 0, .dat .bool)]
abbrev YP : List RS := [.one]
def Ps [Lk] : U8 → Option (Uf) := fun (a0, _) =>
 match (ile 1 a0) with
 | true => some ((ile a0 64), ())
 | false => some (false, ())
def Ks [Lk] := fun v => Lk.f (Ps v)
theorem AFL v : Ks v = Ps v := AK _
abbrev Ab2 : AE := [(.tmp 0, .di), (.tmp 1, .di)]
abbrev Ab1 : AE := [(.tmp 0, .dat .bool)]
abbrev Ab0 : List RS := [.one]
def AWH [Lk] : U3 → Option (Uf) := fun (a0, a1, _) =>
 match Ks (a0, ()) with
 | none => none
 | some (y0, _) => match y0 with
 | true => match (ile 0 a1) with
  | true => some ((ilt a1 a0), ())
  | false => some (false, ())
 | false => some (false, ())
def tin [Lk] := fun v => Lk.f (AWH v)
theorem Ab3 v : tin v = AWH v := AK _
abbrev ARV : AE := [(.tmp 0, .di), (.tmp 1, .di), (.tmp 2, .di)]
abbrev ARU : AE := [(.tmp 0, .di)]
abbrev ART : List RS := [.one]
def AH2 [Lk] : (Int × Int × Int × Unit) → Option (U8) := fun (a0, a1, a2, _) =>
 match (ieq a1 a2) with
 | true => some ((-1 : Int), ())
 | false => match tin (a0, a1, ()) with
 | none => none
 | some (y0, _) => match (!y0) with
 | true => some ((-1 : Int), ())
 | false => match tin (a0, a2, ()) with
 | none => none
 | some (y1, _) => match (!y1) with
 | true => some ((-1 : Int), ())
 | false => some ((IntKind.wrap .i64 ((IntKind.wrap .i64 (a0 * (IntKind.wrap .i64 (a1 + 1)))) + a2)), ())
def AYH [Lk] := fun v => Lk.f (AH2 v)
theorem AWI v : AYH v = AH2 v := AK _
abbrev YN : AE := [(.tmp 0, .di), (.tmp 1, .di)]
abbrev YM : AE := [(.tmp 0, .di), (.tmp 1, .di), (.tmp 2, .dat .bool), (.tmp 3, .dat .bool)]
abbrev YL : List RS := [.one, .one, .one, .one]
def Pr [Lk] : U3 → Option ((Int × Int × Bool × Bool × Unit)) := fun (a0, a1, _) =>
 match Ks (a0, ()) with
 | none => none
 | some (y0, _) => match (!y0) with
 | true => some (0, 0, false, false, ())
 | false => match (ilt a1 0) with
 | true => some (0, 0, false, false, ())
 | false => match (ile (IntKind.wrap .i64 (a0 * (IntKind.wrap .i64 (a0 + 1)))) a1) with
 | true => some (0, 0, false, false, ())
 | false => match (ilt a1 a0) with
 | true => some (a1, 0, false, true, ())
 | false => match quo? .i64 a1 a0 with
 | none => none
 | some x1 => match rem? a1 a0 with
 | none => none
 | some x2 => match (ieq (IntKind.wrap .i64 (x1 - 1)) x2) with
 | true => some (0, 0, false, false, ())
 | false => some ((IntKind.wrap .i64 (x1 - 1)), x2, true, true, ())
def YO [Lk] := fun v => Lk.f (Pr v)
theorem AFK v : YO v = Pr v := AK _
abbrev AHw : AE := [(.tmp 0, .di)]
abbrev AHv : AE := [(.tmp 0, .di), (.tmp 1, .own 55 U6), (.tmp 2, .di)]
abbrev AHu : List RS := [.agg 2, .one]
abbrev AMm : AE := [(.tmp 2, .box 2), (.cell 0 0, .di), (.cell 0 1, .nil U6), (.tmp 4, .box 2), (.cell 1 0, .di), (.cell 1 1, .own 55 U6), (.tmp 12, .di), (.tmp 13, .di)]
abbrev AMl : Am := [(.exit 0, [(.tmp 2, .box 2), (.cell 0 0, .di), (.cell 0 1, .nil U6), (.tmp 4, .box 2), (.cell 1 0, .di), (.cell 1 1, .own 55 U6)])]
def G6 [Lk] : (Int × Int × List U4 × Int × Int × Unit) → Option ((Int × Int × List U4 × Int × Int × Unit) ⊕ (Int × Int × List U4 × Unit) ⊕ Unit) := fun (a0, a1, a2, a3, a4, _) =>
 match (ilt a4 a3) with
 | true => match (fits ((AO a2) + (AO ([([a4] : List (Int))] : List U4)))) with
  | true => some (.inl (a0, a1, (Aq a2 ([([a4] : List (Int))] : List U4)), a3, (IntKind.wrap .i64 (a4 + 1)), ()))
  | false => none
 | false => some (.inr (.inl (a0, a1, a2, ())))
def Xb [Lk] : U8 → Option (V1) := fun (a0, _) =>
 match Ks (a0, ()) with
 | none => none
 | some (y0, _) => match (!y0) with
 | true => some (0, ([] : List U4), 1, ())
 | false => match AT G6 many (0, a0, ([] : List U4), a0, 0, ()) with
 | none => none
 | some r => match r with
 | .inl (o1, o2, o3, _) => some (o2, o3, 0, ())
 | .inr _ => none
def AMo [Lk] := fun v => Lk.f (Xb v)
theorem AMn v : AMo v = Xb v := AK _
abbrev ACH : AE := [(.tmp 0, .dat U6), (.tmp 1, .di)]
abbrev ACG : AE := [(.tmp 0, .di)]
abbrev ACF : List RS := [.one]
abbrev AGd : AE := [(.tmp 0, .dat U6), (.tmp 1, .di), (.tmp 7, .di), (.tmp 8, .di)]
abbrev AGc : Am := [(.ret, [(.tmp 4, .di)]), (.exit 0, [])]
def E6 [Lk] : (List Int × Int × Int × Int × Unit) → Option ((List Int × Int × Int × Int × Unit) ⊕ U8 ⊕ (Unit) ⊕ Unit) := fun (a0, a1, a2, a3, _) =>
 match (ilt a3 a2) with
 | true => match idx a0 a3 with
  | none => none
  | some x0 => match (ieq a1 x0) with
  | true => some (.inr (.inl (a3, ())))
  | false => some (.inl (a0, a1, a2, (IntKind.wrap .i64 (a3 + 1)), ()))
 | false => some (.inr (.inr (.inl ())))
def Qq [Lk] : Uo → Option (U8) := fun (a0, a1, _) =>
 match AT E6 many (a0, a1, (AO a0), 0, ()) with
 | none => none
 | some r => match r with
 | .inl (o0, _) => some (o0, ())
 | .inr r => match r with
 | .inl _ => some ((-1 : Int), ())
 | .inr _ => none
def Oy [Lk] := fun v => Lk.f (Qq v)
theorem AGe v : Oy v = Qq v := AK _
abbrev Lw : AE := [(.tmp 0, .dat U6), (.tmp 1, .di)]
abbrev Lv : AE := [(.tmp 0, .dat .bool)]
abbrev Lu : List RS := [.one]
def IF [Lk] : Uo → Option (Uf) := fun (a0, a1, _) =>
 match Oy (a0, a1, ()) with
 | none => none
 | some (y0, _) => some ((ile 0 y0), ())
def FM [Lk] := fun v => Lk.f (IF v)
theorem RJ v : FM v = IF v := AK _
abbrev ATu : AE := [(.tmp 0, .dat U6)]
abbrev ATt : AE := [(.tmp 0, .di)]
abbrev ATs : List RS := [.one]
abbrev AW0 : AE := [(.tmp 0, .dat U6), (.tmp 3, .di), (.tmp 4, .di)]
abbrev AWz : Am := [(.exit 0, [(.tmp 3, .di)])]
def Jz [Lk] : Uk → Option (Uk ⊕ U8 ⊕ Unit) := fun (a0, a1, a2, _) =>
 match (ilt a2 (AO a0)) with
 | true => match idx a0 a2 with
  | none => none
  | some x0 => some (.inl (a0, (CF a1 x0), (IntKind.wrap .i64 (a2 + 1)), ()))
 | false => some (.inr (.inl (a1, ())))
def AJ6 [Lk] : Um → Option (U8) := fun (a0, _) =>
 match (ilt (AO a0) 1) with
 | true => none
 | false => match idx a0 0 with
 | none => none
 | some x0 => match AT Jz many (a0, x0, 1, ()) with
 | none => none
 | some r => match r with
 | .inl (o1, _) => some (o1, ())
 | .inr _ => none
def AZq [Lk] := fun v => Lk.f (AJ6 v)
theorem AW1 v : AZq v = AJ6 v := AK _
abbrev AKm : AE := [(.tmp 0, .nil U2), (.tmp 1, .di)]
abbrev AKl : AE := [(.tmp 0, .own 3 U2)]
abbrev AKk : List RS := [.one]
def Xx [Lk] : U8 → Option (Um) := fun (a0, _) =>
 match (ilt a0 0) with
 | true => none
 | false => match (ilt 0 (IntKind.wrap .i64 (a0 - (IntKind.wrap .i64 (0 - 0))))) with
 | true => match CM ([] : List Unit) 0 0 with
  | none => none
  | some _u0 => match (JI (IntKind.wrap .i64 (a0 - (IntKind.wrap .i64 (0 - 0))))) with
  | true => match CM (JK (AJ (IntKind.wrap .i64 (a0 - (IntKind.wrap .i64 ((0 : Int) - (0 : Int)))))) (0 : Int)) (0 : Int) (0 : Int) with
   | none => none
   | some x1 => some ((DG (AJ (AO x1)) (JK (AJ (IntKind.wrap .i64 (a0 - (IntKind.wrap .i64 ((0 : Int) - (0 : Int)))))) (0 : Int))), ())
  | false => none
 | false => some (([] : List (Int)), ())
def APw [Lk] := fun v => Lk.f (Xx v)
theorem APv v : APw v = Xx v := AK _
abbrev UR : AE := [(.tmp 0, .dat Ui)]
abbrev UQ : AE := [(.tmp 0, .own 3 U2)]
abbrev UP : List RS := [.one]
abbrev ADA : AE := [(.tmp 6, .own 3 U2), (.tmp 25, .dat Ui), (.tmp 26, .di), (.tmp 27, .di)]
abbrev AC8 : Am := [(.exit 2, [(.tmp 6, .own 3 U2)])]
def D1 [Lk] : (List Int × List U4 × Int × Int × Unit) → Option ((List Int × List U4 × Int × Int × Unit) ⊕ Um ⊕ Unit) := fun (a0, a1, a2, a3, _) =>
 match (ilt a3 a2) with
 | true => match idx a1 a3 with
  | none => none
  | some x0 => match (fits ((AO a0) + (AO x0))) with
  | true => some (.inl ((Aq a0 x0), a1, a2, (IntKind.wrap .i64 (a3 + 1)), ()))
  | false => none
 | false => some (.inr (.inl (a0, ())))
abbrev ADB : AE := [(.tmp 0, .dat Ui), (.tmp 3, .di), (.tmp 9, .dat Ui), (.tmp 10, .di), (.tmp 11, .di)]
abbrev AC9 : Am := [(.exit 0, [(.tmp 0, .dat Ui), (.tmp 3, .di)])]
def D2 [Lk] : (List U4 × Int × List U4 × Int × Int × Unit) → Option ((List U4 × Int × List U4 × Int × Int × Unit) ⊕ V9 ⊕ Unit) := fun (a0, a1, a2, a3, a4, _) =>
 match (ilt a4 a3) with
 | true => match idx a2 a4 with
  | none => none
  | some x0 => match (ilt (IntKind.wrap .i64 (a1 + (AO x0))) 0) with
  | true => none
  | false => some (.inl (a0, (IntKind.wrap .i64 (a1 + (AO x0))), a2, a3, (IntKind.wrap .i64 (a4 + 1)), ()))
 | false => some (.inr (.inl (a0, a1, ())))
def NH [Lk] : Uj → Option (Um) := fun (a0, _) =>
 match AT D2 many (a0, 0, a0, (AO a0), 0, ()) with
 | none => none
 | some r => match r with
 | .inl (o0, o1, _) => match APw (o1, ()) with
  | none => none
  | some (y2, _) => match AT D1 many (y2, o0, (AO o0), 0, ()) with
  | none => none
  | some r => match r with
  | .inl (o3, _) => some (o3, ())
  | .inr _ => none
 | .inr _ => none
def IG [Lk] := fun v => Lk.f (NH v)
theorem ADC v : IG v = NH v := AK _
abbrev HM : AE := [(.tmp 0, .dat U6), (.tmp 1, .clo 195 [])]
abbrev HL : AE := [(.tmp 0, .di)]
abbrev HK : List RS := [.one]
abbrev Kh : AE := [(.tmp 0, .dat U6), (.tmp 1, .clo 195 []), (.tmp 7, .di), (.tmp 8, .di)]
abbrev Kg : Am := [(.ret, [(.tmp 4, .di)]), (.exit 0, [])]
def Bk [Lk] : Uk → Option (Uk ⊕ U8 ⊕ (Unit) ⊕ Unit) := fun (a0, a1, a2, _) =>
 match (ilt a2 a1) with
 | true => match idx a0 a2 with
  | none => none
  | some x0 => match (ilt x0 0) with
  | true => some (.inr (.inl (a2, ())))
  | false => match (ilt 10000 x0) with
  | true => some (.inr (.inl (a2, ())))
  | false => some (.inl (a0, a1, (IntKind.wrap .i64 (a2 + 1)), ()))
 | false => some (.inr (.inr (.inl ())))
def Ea [Lk] : Um → Option (U8) := fun (a0, _) =>
 match AT Bk many (a0, (AO a0), 0, ()) with
 | none => none
 | some r => match r with
 | .inl (o0, _) => some (o0, ())
 | .inr r => match r with
 | .inl _ => some ((-1 : Int), ())
 | .inr _ => none
def GZ [Lk] := fun v => Lk.f (Ea v)
theorem Ki v : GZ v = Ea v := AK _
abbrev GH : AE := [(.tmp 0, .dat U6), (.tmp 1, .clo 195 [])]
abbrev GG : AE := [(.tmp 0, .dat .bool)]
abbrev GF : List RS := [.one]
def Dk [Lk] : Um → Option (Uf) := fun (a0, _) =>
 match GZ (a0, ()) with
 | none => none
 | some (y0, _) => some ((ile 0 y0), ())
def Df [Lk] := fun v => Lk.f (Dk v)
theorem JM v : Df v = Dk v := AK _
abbrev ATf : AE := [(.tmp 0, .dat U6)]
abbrev ATe : AE := [(.tmp 0, .dat .bool)]
abbrev ATd : List RS := [.one]
abbrev AWq : AE := [(.tmp 0, .dat U6), (.tmp 3, .map U2 U2), (.tmp 7, .dat U6), (.tmp 8, .di), (.tmp 9, .di)]
abbrev AWp : Am := [(.exit 0, [(.tmp 0, .dat U6), (.tmp 3, .map U2 U2)])]
def Jv [Lk] : (List Int × List V0 × List Int × Int × Int × Unit) → Option ((List Int × List V0 × List Int × Int × Int × Unit) ⊕ (List Int × List V0 × Unit) ⊕ Unit) := fun (a0, a1, a2, a3, a4, _) =>
 match (ilt a4 a3) with
 | true => match idx a2 a4 with
  | none => none
  | some x0 => some (.inl (a0, (Al a1 x0 (IntKind.wrap .i64 (((Ad a1 x0).getD 0) + 1))), a2, a3, (IntKind.wrap .i64 (a4 + 1)), ()))
 | false => some (.inr (.inl (a0, a1, ())))
def AJu [Lk] : Um → Option (Uf) := fun (a0, _) =>
 match AT Jv many (a0, ([] : List V0), a0, (AO a0), 0, ()) with
 | none => none
 | some r => match r with
 | .inl (o0, o1, _) => some ((ieq (AO o1) (AO o0)), ())
 | .inr _ => none
def once [Lk] := fun v => Lk.f (AJu v)
theorem AWr v : once v = AJu v := AK _
abbrev AAJ : AE := [(.tmp 0, .dat U6)]
abbrev AAI : AE := [(.tmp 0, .dat .bool)]
abbrev AAH : List RS := [.one]
def QN [Lk] : Um → Option (Uf) := fun (a0, _) =>
 match (ilt 1000 (AO a0)) with
 | true => some (false, ())
 | false => match Df (a0, ()) with
 | none => none
 | some (y0, _) => match (!y0) with
 | true => match once (a0, ()) with
  | none => none
  | some (y1, _) => some (y1, ())
 | false => some (false, ())
def OZ [Lk] := fun v => Lk.f (QN v)
theorem AF3 v : OZ v = QN v := AK _
abbrev YK : AE := [(.tmp 0, .dat U6), (.tmp 1, .di)]
abbrev YJ : AE := [(.tmp 0, .own 3 U2)]
abbrev YI : List RS := [.one]
def Pq [Lk] : Uo → Option (Um) := fun (a0, a1, _) =>
 match CM a0 a1 (AO a0) with
 | none => none
 | some x0 => match CM a0 0 a1 with
 | none => none
 | some x1 => match IG (([x0, x1] : List U4), ()) with
 | none => none
 | some (y2, _) => some (y2, ())
def SM [Lk] := fun v => Lk.f (Pq v)
theorem AFJ v : SM v = Pq v := AK _
abbrev AAu : AE := [(.tmp 0, .dat U6), (.tmp 1, .dat U6)]
abbrev AAt : AE := [(.tmp 0, .own 3 U2), (.tmp 1, .dat .bool)]
abbrev AAs : List RS := [.one, .one]
abbrev AGC : AE := [(.tmp 0, .dat U6), (.tmp 6, .own 3 U2), (.tmp 12, .dat U6), (.tmp 13, .di), (.tmp 14, .di)]
abbrev AGB : Am := [(.exit 0, [(.tmp 6, .own 3 U2)])]
def EB [Lk] : (List Int × List Int × List Int × Int × Int × Unit) → Option ((List Int × List Int × List Int × Int × Int × Unit) ⊕ Um ⊕ Unit) := fun (a0, a1, a2, a3, a4, _) =>
 match (ilt a4 a3) with
 | true => match idx a2 a4 with
  | none => none
  | some x0 => match Oy (a0, x0, ()) with
  | none => none
  | some (y1, _) => match (fits ((AO a1) + (AO ([y1] : List (Int))))) with
  | true => some (.inl (a0, (Aq a1 ([y1] : List (Int))), a2, a3, (IntKind.wrap .i64 (a4 + 1)), ()))
  | false => none
 | false => some (.inr (.inl (a1, ())))
def QT [Lk] : (List Int × List Int × Unit) → Option ((List Int × Bool × Unit)) := fun (a0, a1, _) =>
 match OZ (a0, ()) with
 | none => none
 | some (y0, _) => match (!y0) with
 | true => some (([] : List (Int)), false, ())
 | false => match AT EB many (a0, ([] : List (Int)), a1, (AO a1), 0, ()) with
 | none => none
 | some r => match r with
 | .inl (o1, _) => match FM (o1, (-1 : Int), ()) with
  | none => none
  | some (y2, _) => some (o1, (!y2), ())
 | .inr _ => none
def AJW [Lk] := fun v => Lk.f (QT v)
theorem AGD v : AJW v = QT v := AK _
abbrev AJC : AE := [(.tmp 0, .dat U6), (.tmp 1, .di)]
abbrev AJB : AE := [(.tmp 0, .own 3 U2), (.tmp 1, .dat .bool)]
abbrev AJA : List RS := [.one, .one]
def Xi [Lk] : Uo → Option ((List Int × Bool × Unit)) := fun (a0, a1, _) =>
 match AJW (a0, ([a1] : List (Int)), ()) with
 | none => none
 | some (y0, y1, _) => match (!y1) with
 | true => some (([] : List (Int)), false, ())
 | false => match idx y0 0 with
 | none => none
 | some x2 => match SM (a0, (AS y0 0 0), ()) with
 | none => none
 | some (y3, _) => some (y3, true, ())
def AF7 [Lk] := fun v => Lk.f (Xi v)
theorem ANu v : AF7 v = Xi v := AK _
abbrev AAM : AE := [(.tmp 0, .dat U6)]
abbrev AAL : AE := [(.tmp 0, .own 3 U2)]
abbrev AAK : List RS := [.one]
def QO [Lk] : Um → Option (Um) := fun (a0, _) =>
 match OZ (a0, ()) with
 | none => none
 | some (y0, _) => match (!y0) with
 | true => some (([] : List (Int)), ())
 | false => match (ieq (AO a0) 0) with
 | true => some (([] : List (Int)), ())
 | false => match AZq (a0, ()) with
 | none => none
 | some (y1, _) => match Oy (a0, y1, ()) with
 | none => none
 | some (y2, _) => match SM (a0, y2, ()) with
 | none => none
 | some (y3, _) => some (y3, ())
def AAN [Lk] := fun v => Lk.f (QO v)
theorem AF4 v : AAN v = QO v := AK _
abbrev E9 : AE := [(.tmp 0, .dat Ui), (.cap 1 0, .box 1), (.cell 0 0, .di), (.tmp 1, .clo 180 [(0, 0)])]
abbrev E8 : AE := [(.obj 0, .box 1), (.cell 0 0, .di), (.tmp 0, .di)]
abbrev E7 : List RS := [.one]
abbrev H4 : AE := [(.obj 0, .box 1), (.cell 0 0, .di), (.tmp 0, .dat Ui), (.tmp 1, .clo 180 [(0, 0)]), (.tmp 7, .di), (.tmp 8, .di)]
abbrev H3 : Am := [(.ret, [(.obj 0, .box 1), (.cell 0 0, .di), (.tmp 4, .di)]), (.exit 0, [(.obj 0, .box 1), (.cell 0 0, .di)])]
def BZ [Lk] : (Int × List U4 × Int × Int × Unit) → Option ((Int × List U4 × Int × Int × Unit) ⊕ U3 ⊕ U8 ⊕ Unit) := fun (a0, a1, a2, a3, _) =>
 match (ilt a3 a2) with
 | true => match idx a1 a3 with
  | none => none
  | some x0 => match FM (x0, a0, ()) with
  | none => none
  | some (y1, _) => match y1 with
  | true => some (.inr (.inl (a0, a3, ())))
  | false => some (.inl (a0, a1, a2, (IntKind.wrap .i64 (a3 + 1)), ()))
 | false => some (.inr (.inr (.inl (a0, ()))))
def DS [Lk] : V9 → Option (U3) := fun (a0, a1, _) =>
 match AT BZ many (a1, a0, (AO a0), 0, ()) with
 | none => none
 | some r => match r with
 | .inl (o0, o1, _) => some (o0, o1, ())
 | .inr r => match r with
 | .inl (o2, _) => some (o2, (-1 : Int), ())
 | .inr _ => none
def EY [Lk] := fun v => Lk.f (DS v)
theorem H5 v : EY v = DS v := AK _
abbrev Yh : AE := [(.tmp 0, .dat U9), (.tmp 1, .di)]
abbrev Yg : AE := [(.tmp 0, .di)]
abbrev Yf : List RS := [.one]
def Pz [Lk] : V8 → Option (U8) := fun (a0, a1, _) =>
 match EY (a0.2.1, a1, ()) with
 | none => none
 | some (y0, y1, _) => some (y1, ())
def OB [Lk] := fun v => Lk.f (Pz v)
theorem AFa v : OB v = Pz v := AK _
abbrev AUw : AE := [(.tmp 0, .di), (.tmp 1, .dat U6)]
abbrev AUv : AE := [(.tmp 0, .dat .bool)]
abbrev AUu : List RS := [.one]
abbrev AXN : AE := [(.tmp 0, .di), (.tmp 5, .box 3), (.cell 0 0, .own 3 U2), (.cell 0 1, .map U2 U2), (.cell 0 2, .map U2 U2), (.tmp 30, .dat U6), (.tmp 31, .di), (.tmp 32, .di)]
abbrev AXM : Am := [(.ret, [(.tmp 4, .dat .bool)]), (.exit 0, [(.tmp 5, .box 3), (.cell 0 0, .own 3 U2), (.cell 0 1, .map U2 U2), (.cell 0 2, .map U2 U2)])]
def H9 [Lk] : (Int × List Int × List V0 × List V0 × List Int × Int × Int × Unit) → Option ((Int × List Int × List V0 × List V0 × List Int × Int × Int × Unit) ⊕ Uf ⊕ (List Int × List V0 × List V0 × Unit) ⊕ Unit) := fun (a0, a1, a2, a3, a4, a5, a6, _) =>
 match (ilt a6 a5) with
 | true => match idx a4 a6 with
  | none => none
  | some x0 => match YO (a0, x0, ()) with
  | none => none
  | some (y1, y2, y3, y4, _) => match (!y4) with
  | true => some (.inr (.inl (false, ())))
  | false => match y3 with
  | true => match idx a1 (IntKind.wrap .i64 ((AO a1) - 1)) with
   | none => none
   | some x5 => match (!(ieq (AS a1 (AJ (IntKind.wrap .i64 ((AO a1) - 1))) 0) y1)) with
   | true => some (.inr (.inl (false, ())))
   | false => match (ilt 0 (IntKind.wrap .i64 ((AO a1) - 1))) with
   | true => match idx a1 (IntKind.wrap .i64 ((IntKind.wrap .i64 ((AO a1) - 1)) - 1)) with
    | none => none
    | some x6 => match (ieq (AS a1 (AJ (IntKind.wrap .i64 ((IntKind.wrap .i64 ((AO a1) - 1)) - 1))) 0) y2) with
    | true => match CM a1 0 (IntKind.wrap .i64 ((AO a1) - 1)) with
     | none => none
     | some x7 => match (!y3) with
     | true => match idx (DU 0 (AJ (AO x7)) a1) (IntKind.wrap .i64 ((((AJ (AO x7)) : Nat) : Int) - 1)) with
      | none => none
      | some x8 => match (!(ieq (AS a1 (0 + (AJ (IntKind.wrap .i64 ((((AJ (AO x7)) : Nat) : Int) - 1)))) 0) y1)) with
      | true => some (.inr (.inl (false, ())))
      | false => match (!y3) with
      | true => some (.inl (a0, (DG (AJ (AO x7)) a1), a2, (Al a3 y1 (IntKind.wrap .i64 (((Ad a3 y1).getD 0) + 1))), a4, a5, (IntKind.wrap .i64 (a6 + 1)), ()))
      | false => some (.inl (a0, (DG (AJ (AO x7)) a1), a2, a3, a4, a5, (IntKind.wrap .i64 (a6 + 1)), ()))
     | false => match (!y3) with
     | true => some (.inl (a0, (DG (AJ (AO x7)) a1), a2, (Al a3 y1 (IntKind.wrap .i64 (((Ad a3 y1).getD 0) + 1))), a4, a5, (IntKind.wrap .i64 (a6 + 1)), ()))
     | false => some (.inl (a0, (DG (AJ (AO x7)) a1), a2, a3, a4, a5, (IntKind.wrap .i64 (a6 + 1)), ()))
    | false => match (ilt 0 ((Ad a2 y2).getD 0)) with
    | true => some (.inr (.inl (false, ())))
    | false => match (fits ((AO a1) + (AO ([y2] : List (Int))))) with
    | true => match (!y3) with
     | true => match idx (Aq a1 ([y2] : List (Int))) (IntKind.wrap .i64 ((AO (Aq a1 ([y2] : List (Int)))) - 1)) with
      | none => none
      | some x9 => match (!(ieq (AS (Aq a1 ([y2] : List (Int))) (AJ (IntKind.wrap .i64 ((AO (Aq a1 ([y2] : List (Int)))) - 1))) 0) y1)) with
      | true => some (.inr (.inl (false, ())))
      | false => match (!y3) with
      | true => some (.inl (a0, (Aq a1 ([y2] : List (Int))), (Al a2 y2 (IntKind.wrap .i64 (((Ad a2 y2).getD 0) + 1))), (Al a3 y1 (IntKind.wrap .i64 (((Ad a3 y1).getD 0) + 1))), a4, a5, (IntKind.wrap .i64 (a6 + 1)), ()))
      | false => some (.inl (a0, (Aq a1 ([y2] : List (Int))), (Al a2 y2 (IntKind.wrap .i64 (((Ad a2 y2).getD 0) + 1))), a3, a4, a5, (IntKind.wrap .i64 (a6 + 1)), ()))
     | false => match (!y3) with
     | true => some (.inl (a0, (Aq a1 ([y2] : List (Int))), (Al a2 y2 (IntKind.wrap .i64 (((Ad a2 y2).getD 0) + 1))), (Al a3 y1 (IntKind.wrap .i64 (((Ad a3 y1).getD 0) + 1))), a4, a5, (IntKind.wrap .i64 (a6 + 1)), ()))
     | false => some (.inl (a0, (Aq a1 ([y2] : List (Int))), (Al a2 y2 (IntKind.wrap .i64 (((Ad a2 y2).getD 0) + 1))), a3, a4, a5, (IntKind.wrap .i64 (a6 + 1)), ()))
    | false => none
   | false => match (ilt 0 ((Ad a2 y2).getD 0)) with
   | true => some (.inr (.inl (false, ())))
   | false => match (fits ((AO a1) + (AO ([y2] : List (Int))))) with
   | true => match (!y3) with
    | true => match idx (Aq a1 ([y2] : List (Int))) (IntKind.wrap .i64 ((AO (Aq a1 ([y2] : List (Int)))) - 1)) with
     | none => none
     | some x10 => match (!(ieq (AS (Aq a1 ([y2] : List (Int))) (AJ (IntKind.wrap .i64 ((AO (Aq a1 ([y2] : List (Int)))) - 1))) 0) y1)) with
     | true => some (.inr (.inl (false, ())))
     | false => match (!y3) with
     | true => some (.inl (a0, (Aq a1 ([y2] : List (Int))), (Al a2 y2 (IntKind.wrap .i64 (((Ad a2 y2).getD 0) + 1))), (Al a3 y1 (IntKind.wrap .i64 (((Ad a3 y1).getD 0) + 1))), a4, a5, (IntKind.wrap .i64 (a6 + 1)), ()))
     | false => some (.inl (a0, (Aq a1 ([y2] : List (Int))), (Al a2 y2 (IntKind.wrap .i64 (((Ad a2 y2).getD 0) + 1))), a3, a4, a5, (IntKind.wrap .i64 (a6 + 1)), ()))
    | false => match (!y3) with
    | true => some (.inl (a0, (Aq a1 ([y2] : List (Int))), (Al a2 y2 (IntKind.wrap .i64 (((Ad a2 y2).getD 0) + 1))), (Al a3 y1 (IntKind.wrap .i64 (((Ad a3 y1).getD 0) + 1))), a4, a5, (IntKind.wrap .i64 (a6 + 1)), ()))
    | false => some (.inl (a0, (Aq a1 ([y2] : List (Int))), (Al a2 y2 (IntKind.wrap .i64 (((Ad a2 y2).getD 0) + 1))), a3, a4, a5, (IntKind.wrap .i64 (a6 + 1)), ()))
   | false => none
  | false => match (!y3) with
  | true => match idx a1 (IntKind.wrap .i64 ((AO a1) - 1)) with
   | none => none
   | some x11 => match (!(ieq (AS a1 (AJ (IntKind.wrap .i64 ((AO a1) - 1))) 0) y1)) with
   | true => some (.inr (.inl (false, ())))
   | false => match (!y3) with
   | true => some (.inl (a0, a1, a2, (Al a3 y1 (IntKind.wrap .i64 (((Ad a3 y1).getD 0) + 1))), a4, a5, (IntKind.wrap .i64 (a6 + 1)), ()))
   | false => some (.inl (a0, a1, a2, a3, a4, a5, (IntKind.wrap .i64 (a6 + 1)), ()))
  | false => match (!y3) with
  | true => some (.inl (a0, a1, a2, (Al a3 y1 (IntKind.wrap .i64 (((Ad a3 y1).getD 0) + 1))), a4, a5, (IntKind.wrap .i64 (a6 + 1)), ()))
  | false => some (.inl (a0, a1, a2, a3, a4, a5, (IntKind.wrap .i64 (a6 + 1)), ()))
 | false => some (.inr (.inr (.inl (a1, a2, a3, ()))))
def AKq [Lk] : Vd → Option (Uf) := fun (a0, a1, _) =>
 match idx a1 0 with
 | none => none
 | some x0 => match tin (a0, x0, ()) with
 | none => none
 | some (y1, _) => match (!y1) with
 | true => some (false, ())
 | false => match idx a1 0 with
 | none => none
 | some x2 => match idx a1 0 with
 | none => none
 | some x3 => match AT H9 many (a0, ([x2] : List (Int)), (Al ([] : List V0) x3 1), ([] : List V0), a1, (AO a1), 0, ()) with
 | none => none
 | some r => match r with
 | .inl (o4, _) => some (o4, ())
 | .inr r => match r with
 | .inl (o5, o6, o7, _) => match (ieq (AO o5) 1) with
  | true => some ((ieq (AO o7) (AO o6)), ())
  | false => some (false, ())
 | .inr _ => none
def Aeo [Lk] := fun v => Lk.f (AKq v)
theorem AXO v : Aeo v = AKq v := AK _
abbrev YY : AE := [(.tmp 0, .dat U9)]
abbrev YX : AE := [(.tmp 0, .dat .bool)]
abbrev YW : List RS := [.one]
abbrev AFP : AE := [(.tmp 3, .map U2 U2), (.tmp 78, .di), (.tmp 79, .di)]
abbrev AFM : Am := [(.ret, [(.tmp 2, .dat .bool)]), (.exit 4, [])]
def D9 [Lk] : (List V0 × Int × Int × Unit) → Option ((List V0 × Int × Int × Unit) ⊕ Uf ⊕ (Unit) ⊕ Unit) := fun (a0, a1, a2, _) =>
 match (ilt a2 a1) with
 | true => match (ieq ((Ad a0 a2).getD 0) 0) with
  | true => some (.inr (.inl (false, ())))
  | false => some (.inl (a0, a1, (IntKind.wrap .i64 (a2 + 1)), ()))
 | false => some (.inr (.inr (.inl ())))
abbrev AFQ : AE := [(.tmp 1, .box 2), (.cell 0 0, .di), (.cell 0 1, .dat Ui), (.tmp 3, .map U2 U2), (.tmp 4, .di), (.tmp 16, .dat Ui), (.tmp 17, .di), (.tmp 18, .di), (.tmp 26, .dat U6), (.tmp 28, .di), (.tmp 29, .di), (.tmp 30, .dat .bool), (.tmp 33, .dat U6), (.tmp 34, .dat .bool), (.tmp 35, .dat .bool), (.tmp 38, .dat U6), (.tmp 39, .di), (.tmp 40, .dat U6), (.tmp 42, .di), (.tmp 43, .dat .bool), (.tmp 46, .ptr' 0 0), (.tmp 47, .di), (.tmp 48, .dat U6), (.tmp 49, .dat .bool), (.tmp 50, .dat .bool), (.tmp 55, .dat U6), (.tmp 56, .di), (.tmp 57, .di)]
abbrev AFN : Am := [(.ret, [(.tmp 2, .dat .bool)]), (.exit 2, [(.tmp 1, .box 2), (.cell 0 0, .di), (.cell 0 1, .dat Ui), (.tmp 3, .map U2 U2), (.tmp 4, .di), (.tmp 16, .dat Ui), (.tmp 17, .di), (.tmp 18, .di), (.tmp 26, .dat U6), (.tmp 28, .di), (.tmp 29, .di), (.tmp 30, .dat .bool), (.tmp 33, .dat U6), (.tmp 34, .dat .bool), (.tmp 35, .dat .bool), (.tmp 38, .dat U6), (.tmp 39, .di), (.tmp 40, .dat U6), (.tmp 42, .di), (.tmp 43, .dat .bool), (.tmp 46, .ptr' 0 0), (.tmp 47, .di), (.tmp 48, .dat U6), (.tmp 49, .dat .bool), (.tmp 50, .dat .bool)])]
def DI [Lk] : Uw → Option (Uw ⊕ Uf ⊕ (Int × List U4 × List V0 × Int × List U4 × Int × Int × List Int × Int × Int × Bool × List Int × Bool × Bool × List Int × Int × List Int × Int × Bool × Int × List Int × Bool × Bool × Unit) ⊕ Unit) := fun (a0, a1, a2, a3, a4, a5, a6, a7, a8, a9, a10, a11, a12, a13, a14, a15, a16, a17, a18, a19, a20, a21, a22, a23, a24, a25, _) =>
 match (ilt a25 a24) with
 | true => match idx a23 a25 with
  | none => none
  | some x0 => match (ilt x0 a0) with
  | true => match (ilt 0 ((Ad a2 x0).getD 0)) with
   | true => some (.inr (.inl (false, ())))
   | false => some (.inl (a0, a1, (Al a2 x0 (IntKind.wrap .i64 (((Ad a2 x0).getD 0) + 1))), a3, a4, a5, a6, a7, a8, a9, a10, a11, a12, a13, a14, a15, a16, a17, a18, a19, a20, a21, a22, a23, a24, (IntKind.wrap .i64 (a25 + 1)), ()))
  | false => some (.inl (a0, a1, (Al a2 x0 (IntKind.wrap .i64 (((Ad a2 x0).getD 0) + 1))), a3, a4, a5, a6, a7, a8, a9, a10, a11, a12, a13, a14, a15, a16, a17, a18, a19, a20, a21, a22, a23, a24, (IntKind.wrap .i64 (a25 + 1)), ()))
 | false => some (.inr (.inr (.inl (a0, a1, a2, a3, a4, a5, a6, a7, a8, a9, a10, a11, a12, a13, a14, a15, a16, a17, a18, a19, a20, a21, a22, ()))))
abbrev AFR : AE := [(.tmp 1, .box 2), (.cell 0 0, .di), (.cell 0 1, .dat Ui), (.tmp 3, .map U2 U2), (.tmp 4, .di), (.tmp 16, .dat Ui), (.tmp 17, .di), (.tmp 18, .di)]
abbrev AFO : Am := [(.ret, [(.tmp 2, .dat .bool)]), (.exit 0, [(.tmp 1, .box 2), (.cell 0 0, .di), (.cell 0 1, .dat Ui), (.tmp 3, .map U2 U2)])]
def DJ [Lk] : (Int × List U4 × List V0 × Int × List U4 × Int × Int × Unit) → Option ((Int × List U4 × List V0 × Int × List U4 × Int × Int × Unit) ⊕ Uf ⊕ (Int × List U4 × List V0 × Unit) ⊕ Unit) := fun (a0, a1, a2, a3, a4, a5, a6, _) =>
 match (ilt a6 a5) with
 | true => match idx a4 a6 with
  | none => none
  | some x0 => match (ieq (AO x0) 0) with
  | true => some (.inr (.inl (false, ())))
  | false => match idx x0 0 with
  | none => none
  | some x1 => match (ile x1 a3) with
  | true => some (.inr (.inl (false, ())))
  | false => match OZ (x0, ()) with
  | none => none
  | some (y2, _) => match (!y2) with
  | true => some (.inr (.inl (false, ())))
  | false => match AZq (x0, ()) with
  | none => none
  | some (y3, _) => match idx x0 0 with
  | none => none
  | some x4 => match (!(ieq y3 x4)) with
  | true => some (.inr (.inl (false, ())))
  | false => match Aeo (a0, x0, ()) with
  | none => none
  | some (y5, _) => match (!y5) with
  | true => some (.inr (.inl (false, ())))
  | false => match idx x0 0 with
  | none => none
  | some x6 => match AT DI many (a0, a1, a2, x6, a4, a5, a6, x0, x1, a3, (ile x1 a3), x0, y2, (!y2), x0, y3, x0, x4, (!(ieq y3 x4)), a0, x0, y5, (!y5), x0, (AO x0), 0, ()) with
  | none => none
  | some r => match r with
  | .inl (o7, _) => some (.inr (.inl (o7, ())))
  | .inr r => match r with
  | .inl (o8, o9, o10, o11, o12, o13, o14, o15, o16, o17, o18, o19, o20, o21, o22, o23, o24, o25, o26, o27, o28, o29, o30, _) => some (.inl (o8, o9, o10, o11, o12, o13, (IntKind.wrap .i64 (o14 + 1)), ()))
  | .inr _ => none
 | false => some (.inr (.inr (.inl (a0, a1, a2, ()))))
def Px [Lk] : (Ub × Unit) → Option (Uf) := fun (a0, _) =>
 match Ks (a0.1, ()) with
 | none => none
 | some (y0, _) => match (!y0) with
 | true => some (false, ())
 | false => match AT DJ many (a0.1, a0.2.1, ([] : List V0), (-1 : Int), a0.2.1, (AO a0.2.1), 0, ()) with
 | none => none
 | some r => match r with
 | .inl (o1, _) => some (o1, ())
 | .inr r => match r with
 | .inl (o2, o3, o4, _) => match AT D9 many (o4, o2, 0, ()) with
  | none => none
  | some r => match r with
  | .inl (o5, _) => some (o5, ())
  | .inr r => match r with
  | .inl _ => some (true, ())
  | .inr _ => none
 | .inr _ => none
def N9 [Lk] := fun v => Lk.f (Px v)
theorem AFS v : N9 v = Px v := AK _
abbrev ALe : AE := [(.tmp 0, .dat U9), (.tmp 1, .di), (.tmp 2, .di)]
abbrev ALd : AE := [(.tmp 0, .di)]
abbrev ALc : List RS := [.one]
def X3 [Lk] : (Ub × Int × Int × Unit) → Option (U8) := fun (a0, a1, a2, _) =>
 match N9 ((a0.1, (a0.2.1, ())), ()) with
 | none => none
 | some (y0, _) => match (!y0) with
 | true => some (1, ())
 | false => match tin (a0.1, a1, ()) with
 | none => none
 | some (y1, _) => match (!y1) with
 | true => some (10, ())
 | false => match tin (a0.1, a2, ()) with
 | none => none
 | some (y2, _) => match (!y2) with
 | true => some (10, ())
 | false => some (0, ())
def asked [Lk] := fun v => Lk.f (X3 v)
theorem AQn v : asked v = X3 v := AK _
abbrev ATq : AE := [(.tmp 0, .di)]
abbrev ATp : AE := [(.tmp 0, .dat .bool)]
abbrev ATo : List RS := [.one]
def ABV [Lk] : U8 → Option (Uf) := fun (a0, _) =>
 some ((!(ieq a0 a0)), ())
def Ady [Lk] := fun v => Lk.f (ABV v)
theorem AJ5 v : Ady v = ABV v := AK _
abbrev PM : AE := [(.tmp 0, .di), (.tmp 1, .di)]
abbrev PL : AE := [(.tmp 0, .di)]
abbrev PK : List RS := [.one]
def HZ [Lk] : U3 → Option (U8) := fun (a0, a1, _) =>
 match Ady (a0, ()) with
 | none => none
 | some (y0, _) => match Ady (a1, ()) with
 | none => none
 | some (y1, _) => match y0 with
 | true => match y1 with
  | true => some (0, ())
  | false => some ((-1 : Int), ())
 | false => match y1 with
 | true => some (1, ())
 | false => match (ilt a0 a1) with
 | true => some ((-1 : Int), ())
 | false => match (ilt a1 a0) with
 | true => some (1, ())
 | false => some (0, ())
def Fz [Lk] := fun v => Lk.f (HZ v)
theorem Lz v : Fz v = HZ v := AK _
abbrev AHW : AE := [(.tmp 0, .dat U6), (.tmp 1, .dat U6)]
abbrev AHV : AE := [(.tmp 0, .di)]
abbrev AHU : List RS := [.one]
def XY [Lk] : (List Int × List Int × Unit) → Option (U8) := fun (a0, a1, _) =>
 match idx a0 0 with
 | none => none
 | some x0 => match idx a1 0 with
 | none => none
 | some x1 => match Fz (x0, x1, ()) with
 | none => none
 | some (y2, _) => some (y2, ())
def BB [Lk] := fun v => Lk.f (XY v)
theorem AMK v : BB v = XY v := AK _
def GD : List Int := [0, 1, 2, 2, 3, 3, 3, 3, 4, 4, 4, 4, 4, 4, 4, 4, 5, 5, 5, 5, 5, 5, 5, 5, 5, 5, 5, 5, 5, 5, 5, 5, 6, 6, 6, 6, 6, 6, 6, 6, 6, 6, 6, 6, 6, 6, 6, 6, 6, 6, 6, 6, 6, 6, 6, 6, 6, 6, 6, 6, 6, 6, 6, 6, 7, 7, 7, 7, 7, 7, 7, 7, 7, 7, 7, 7, 7, 7, 7, 7, 7, 7, 7, 7, 7, 7, 7, 7, 7, 7, 7, 7, 7, 7, 7, 7, 7, 7, 7, 7, 7, 7, 7, 7, 7, 7, 7, 7, 7, 7, 7, 7, 7, 7, 7, 7, 7, 7, 7, 7, 7, 7, 7, 7, 7, 7, 7, 7, 8, 8, 8, 8, 8, 8, 8, 8, 8, 8, 8, 8, 8, 8, 8, 8, 8, 8, 8, 8, 8, 8, 8, 8, 8, 8, 8, 8, 8, 8, 8, 8, 8, 8, 8, 8, 8, 8, 8, 8, 8, 8, 8, 8, 8, 8, 8, 8, 8, 8, 8, 8, 8, 8, 8, 8, 8, 8, 8, 8, 8, 8, 8, 8, 8, 8, 8, 8, 8, 8, 8, 8, 8, 8, 8, 8, 8, 8, 8, 8, 8, 8, 8, 8, 8, 8, 8, 8, 8, 8, 8, 8, 8, 8, 8, 8, 8, 8, 8, 8, 8, 8, 8, 8, 8, 8, 8, 8, 8, 8, 8, 8, 8, 8, 8, 8, 8, 8, 8, 8, 8, 8, 8, 8, 8, 8, 8, 8]
abbrev AKL : AE := [(.tmp 0, .dat (.int .u64))]
abbrev AKK : AE := [(.tmp 0, .di)]
abbrev AKJ : List RS := [.one]
def Xs [Lk] : U8 → Option (U8) := fun (a0, _) =>
 match (ile 4294967296 a0) with
 | true => match shr? .u64 a0 32 with
  | none => none
  | some x0 => match (ile 65536 x0) with
  | true => match shr? .u64 x0 16 with
   | none => none
   | some x1 => match (ile 256 x1) with
   | true => match shr? .u64 x1 8 with
    | none => none
    | some x2 => match idx GD (IntKind.wrap .u8 x2) with
    | none => none
    | some x3 => some ((IntKind.wrap .i64 ((IntKind.wrap .i64 ((IntKind.wrap .i64 (32 + 16)) + 8)) + (IntKind.wrap .i64 x3))), ())
   | false => match idx GD (IntKind.wrap .u8 x1) with
   | none => none
   | some x4 => some ((IntKind.wrap .i64 ((IntKind.wrap .i64 (32 + 16)) + (IntKind.wrap .i64 x4))), ())
  | false => match (ile 256 x0) with
  | true => match shr? .u64 x0 8 with
   | none => none
   | some x5 => match idx GD (IntKind.wrap .u8 x5) with
   | none => none
   | some x6 => some ((IntKind.wrap .i64 ((IntKind.wrap .i64 (32 + 8)) + (IntKind.wrap .i64 x6))), ())
  | false => match idx GD (IntKind.wrap .u8 x0) with
  | none => none
  | some x7 => some ((IntKind.wrap .i64 (32 + (IntKind.wrap .i64 x7))), ())
 | false => match (ile 65536 a0) with
 | true => match shr? .u64 a0 16 with
  | none => none
  | some x8 => match (ile 256 x8) with
  | true => match shr? .u64 x8 8 with
   | none => none
   | some x9 => match idx GD (IntKind.wrap .u8 x9) with
   | none => none
   | some x10 => some ((IntKind.wrap .i64 ((IntKind.wrap .i64 ((IntKind.wrap .i64 (0 + 16)) + 8)) + (IntKind.wrap .i64 x10))), ())
  | false => match idx GD (IntKind.wrap .u8 x8) with
  | none => none
  | some x11 => some ((IntKind.wrap .i64 ((IntKind.wrap .i64 (0 + 16)) + (IntKind.wrap .i64 x11))), ())
 | false => match (ile 256 a0) with
 | true => match shr? .u64 a0 8 with
  | none => none
  | some x12 => match idx GD (IntKind.wrap .u8 x12) with
  | none => none
  | some x13 => some ((IntKind.wrap .i64 ((IntKind.wrap .i64 (0 + 8)) + (IntKind.wrap .i64 x13))), ())
 | false => match idx GD (IntKind.wrap .u8 a0) with
 | none => none
 | some x14 => some ((IntKind.wrap .i64 (0 + (IntKind.wrap .i64 x14))), ())
def APV [Lk] := fun v => Lk.f (Xs v)
theorem APU v : APV v = Xs v := AK _
abbrev UX : AE := [(.tmp 0, .dat (.int .u64))]
abbrev UW : AE := [(.tmp 0, .di)]
abbrev UU : List RS := [.one]
def NJ [Lk] : U8 → Option (U8) := fun (a0, _) =>
 match APV (a0, ()) with
 | none => none
 | some (y0, _) => some (y0, ())
def bitsLen [Lk] := fun v => Lk.f (NJ v)
theorem ADO v : bitsLen v = NJ v := AK _
abbrev SK : AE := [(.tmp 0, .box 1), (.cell 0 0, .dat (.int .u64))]
abbrev SJ : AE := [(.obj 0, .box 1), (.cell 0 0, .dat (.int .u64)), (.tmp 0, .dat (.int .u64))]
abbrev SH : List RS := [.one]
def Mb [Lk] : U8 → Option (U3) := fun (a0, _) =>
 match shl? .u64 a0 13 with
 | none => none
 | some x0 => match shr? .u64 (IntKind.wrap .u64 ((BitVec.ofInt (IntKind.bits .u64) a0 ^^^ BitVec.ofInt (IntKind.bits .u64) x0).toNat)) 7 with
 | none => none
 | some x1 => match shl? .u64 (IntKind.wrap .u64 ((BitVec.ofInt (IntKind.bits .u64) (IntKind.wrap .u64 ((BitVec.ofInt (IntKind.bits .u64) a0 ^^^ BitVec.ofInt (IntKind.bits .u64) x0).toNat)) ^^^ BitVec.ofInt (IntKind.bits .u64) x1).toNat)) 17 with
 | none => none
 | some x2 => some ((IntKind.wrap .u64 ((BitVec.ofInt (IntKind.bits .u64) (IntKind.wrap .u64 ((BitVec.ofInt (IntKind.bits .u64) (IntKind.wrap .u64 ((BitVec.ofInt (IntKind.bits .u64) a0 ^^^ BitVec.ofInt (IntKind.bits .u64) x0).toNat)) ^^^ BitVec.ofInt (IntKind.bits .u64) x1).toNat)) ^^^ BitVec.ofInt (IntKind.bits .u64) x2).toNat)), (IntKind.wrap .u64 ((BitVec.ofInt (IntKind.bits .u64) (IntKind.wrap .u64 ((BitVec.ofInt (IntKind.bits .u64) (IntKind.wrap .u64 ((BitVec.ofInt (IntKind.bits .u64) a0 ^^^ BitVec.ofInt (IntKind.bits .u64) x0).toNat)) ^^^ BitVec.ofInt (IntKind.bits .u64) x1).toNat)) ^^^ BitVec.ofInt (IntKind.bits .u64) x2).toNat)), ())
def xorNext [Lk] := fun v => Lk.f (Mb v)
theorem YE v : xorNext v = Mb v := AK _
abbrev Tb : AE := [(.tmp 0, .di)]
abbrev Ta : AE := [(.tmp 0, .dat (.int .u64))]
abbrev TZ : List RS := [.one]
def M4 [Lk] : U8 → Option (U8) := fun (a0, _) =>
 match bitsLen ((IntKind.wrap .u64 a0), ()) with
 | none => none
 | some (y0, _) => match shl? .u64 1 y0 with
 | none => none
 | some x1 => some (x1, ())
def Qf [Lk] := fun v => Lk.f (M4 v)
theorem ABU v : Qf v = M4 v := AK _
def NB [Lk] {α : Type} (z : α) (c : α × α × Unit → Option U8) : (List α × Int × Int × Int × Int × Unit) → Option ((List α × Int × Int × Int × Int × Unit) ⊕ (List α × Int × Int × Int × Unit) ⊕ Unit) := fun (a0, a1, a2, a3, a4, _) =>
 match (ilt a1 a4) with
 | true => match idx a0 a4 with
  | none => none
  | some x0 => match idx a0 (IntKind.wrap .i64 (a4 - 1)) with
  | none => none
  | some x1 => match c ((AS a0 (AJ a4) z), (AS a0 (AJ (IntKind.wrap .i64 (a4 - 1))) z), ()) with
  | none => none
  | some (y2, _) => match (ilt y2 0) with
  | true => match idx a0 (IntKind.wrap .i64 (a4 - 1)) with
   | none => none
   | some x3 => match idx a0 a4 with
   | none => none
   | some x4 => match idx a0 a4 with
   | none => none
   | some x5 => match idx (Ap a0 (AJ a4) (AS a0 (AJ (IntKind.wrap .i64 (a4 - 1))) z)) (IntKind.wrap .i64 (a4 - 1)) with
   | none => none
   | some x6 => some (.inl ((Ap (Ap a0 (AJ a4) (AS a0 (AJ (IntKind.wrap .i64 (a4 - 1))) z)) (AJ (IntKind.wrap .i64 (a4 - 1))) (AS a0 (AJ a4) z)), a1, a2, a3, (IntKind.wrap .i64 (a4 - 1)), ()))
  | false => some (.inr (.inl (a0, a1, a2, a3, ())))
 | false => some (.inr (.inl (a0, a1, a2, a3, ())))
def NC [Lk] {α : Type} (z : α) (c : α × α × Unit → Option U8) : (List α × Int × Int × Int × Unit) → Option ((List α × Int × Int × Int × Unit) ⊕ (List α × Unit) ⊕ Unit) := fun (a0, a1, a2, a3, _) =>
 match (ilt a3 a2) with
 | true => match AT (NB z c) many (a0, a1, a2, a3, a3, ()) with
  | none => none
  | some r => match r with
  | .inl (o0, o1, o2, o3, _) => some (.inl (o0, o1, o2, (IntKind.wrap .i64 (o3 + 1)), ()))
  | .inr _ => none
 | false => some (.inr (.inl (a0, ())))
def ACE [Lk] {α : Type} (z : α) (c : α × α × Unit → Option U8) : (List α × Int × Int × Unit) → Option ((List α × Unit)) := fun (a0, a1, a2, _) =>
 match AT (NC z c) many (a0, a1, a2, (IntKind.wrap .i64 (a1 + 1)), ()) with
 | none => none
 | some r => match r with
 | .inl (o0, _) => some (o0, ())
 | .inr _ => none
def AeO [Lk] {α : Type} (z : α) (c : α × α × Unit → Option U8) (v : (List α × Int × Int × Unit)) : Option ((List α × Unit)) := Lk.f ((ACE z c) v)
theorem Ag5 {α : Type} (z : α) (c : α × α × Unit → Option U8) (v : (List α × Int × Int × Unit)) : (AeO z c) v = (ACE z c) v := AK _
def LB [Lk] {α : Type} (z : α) (c : α × α × Unit → Option U8) : (List α × Int × Int × Int × Unit) → Option ((List α × Int × Int × Int × Unit) ⊕ (List α × Unit) ⊕ (List α × Unit) ⊕ Unit) := fun (a0, a1, a2, a3, _) =>
 match (ile a1 (IntKind.wrap .i64 ((IntKind.wrap .i64 (2 * a3)) + 1))) with
 | true => some (.inr (.inl (a0, ())))
 | false => match (ilt (IntKind.wrap .i64 ((IntKind.wrap .i64 ((IntKind.wrap .i64 (2 * a3)) + 1)) + 1)) a1) with
 | true => match idx a0 (IntKind.wrap .i64 (a2 + (IntKind.wrap .i64 ((IntKind.wrap .i64 (2 * a3)) + 1)))) with
  | none => none
  | some x0 => match idx a0 (IntKind.wrap .i64 ((IntKind.wrap .i64 (a2 + (IntKind.wrap .i64 ((IntKind.wrap .i64 (2 * a3)) + 1)))) + 1)) with
  | none => none
  | some x1 => match c ((AS a0 (AJ (IntKind.wrap .i64 (a2 + (IntKind.wrap .i64 ((IntKind.wrap .i64 (2 * a3)) + 1))))) z), (AS a0 (AJ (IntKind.wrap .i64 ((IntKind.wrap .i64 (a2 + (IntKind.wrap .i64 ((IntKind.wrap .i64 (2 * a3)) + 1)))) + 1))) z), ()) with
  | none => none
  | some (y2, _) => match (ilt y2 0) with
  | true => match idx a0 (IntKind.wrap .i64 (a2 + a3)) with
   | none => none
   | some x3 => match idx a0 (IntKind.wrap .i64 (a2 + (IntKind.wrap .i64 ((IntKind.wrap .i64 ((IntKind.wrap .i64 (2 * a3)) + 1)) + 1)))) with
   | none => none
   | some x4 => match c ((AS a0 (AJ (IntKind.wrap .i64 (a2 + a3))) z), (AS a0 (AJ (IntKind.wrap .i64 (a2 + (IntKind.wrap .i64 ((IntKind.wrap .i64 ((IntKind.wrap .i64 (2 * a3)) + 1)) + 1))))) z), ()) with
   | none => none
   | some (y5, _) => match (!(ilt y5 0)) with
   | true => some (.inr (.inr (.inl (a0, ()))))
   | false => match idx a0 (IntKind.wrap .i64 (a2 + (IntKind.wrap .i64 ((IntKind.wrap .i64 ((IntKind.wrap .i64 (2 * a3)) + 1)) + 1)))) with
   | none => none
   | some x6 => match idx a0 (IntKind.wrap .i64 (a2 + a3)) with
   | none => none
   | some x7 => match idx a0 (IntKind.wrap .i64 (a2 + a3)) with
   | none => none
   | some x8 => match idx (Ap a0 (AJ (IntKind.wrap .i64 (a2 + a3))) (AS a0 (AJ (IntKind.wrap .i64 (a2 + (IntKind.wrap .i64 ((IntKind.wrap .i64 ((IntKind.wrap .i64 (2 * a3)) + 1)) + 1))))) z)) (IntKind.wrap .i64 (a2 + (IntKind.wrap .i64 ((IntKind.wrap .i64 ((IntKind.wrap .i64 (2 * a3)) + 1)) + 1)))) with
   | none => none
   | some x9 => some (.inl ((Ap (Ap a0 (AJ (IntKind.wrap .i64 (a2 + a3))) (AS a0 (AJ (IntKind.wrap .i64 (a2 + (IntKind.wrap .i64 ((IntKind.wrap .i64 ((IntKind.wrap .i64 (2 * a3)) + 1)) + 1))))) z)) (AJ (IntKind.wrap .i64 (a2 + (IntKind.wrap .i64 ((IntKind.wrap .i64 ((IntKind.wrap .i64 (2 * a3)) + 1)) + 1))))) (AS a0 (AJ (IntKind.wrap .i64 (a2 + a3))) z)), a1, a2, (IntKind.wrap .i64 ((IntKind.wrap .i64 ((IntKind.wrap .i64 (2 * a3)) + 1)) + 1)), ()))
  | false => match idx a0 (IntKind.wrap .i64 (a2 + a3)) with
  | none => none
  | some x10 => match idx a0 (IntKind.wrap .i64 (a2 + (IntKind.wrap .i64 ((IntKind.wrap .i64 (2 * a3)) + 1)))) with
  | none => none
  | some x11 => match c ((AS a0 (AJ (IntKind.wrap .i64 (a2 + a3))) z), (AS a0 (AJ (IntKind.wrap .i64 (a2 + (IntKind.wrap .i64 ((IntKind.wrap .i64 (2 * a3)) + 1))))) z), ()) with
  | none => none
  | some (y12, _) => match (!(ilt y12 0)) with
  | true => some (.inr (.inr (.inl (a0, ()))))
  | false => match idx a0 (IntKind.wrap .i64 (a2 + (IntKind.wrap .i64 ((IntKind.wrap .i64 (2 * a3)) + 1)))) with
  | none => none
  | some x13 => match idx a0 (IntKind.wrap .i64 (a2 + a3)) with
  | none => none
  | some x14 => match idx a0 (IntKind.wrap .i64 (a2 + a3)) with
  | none => none
  | some x15 => match idx (Ap a0 (AJ (IntKind.wrap .i64 (a2 + a3))) (AS a0 (AJ (IntKind.wrap .i64 (a2 + (IntKind.wrap .i64 ((IntKind.wrap .i64 (2 * a3)) + 1))))) z)) (IntKind.wrap .i64 (a2 + (IntKind.wrap .i64 ((IntKind.wrap .i64 (2 * a3)) + 1)))) with
  | none => none
  | some x16 => some (.inl ((Ap (Ap a0 (AJ (IntKind.wrap .i64 (a2 + a3))) (AS a0 (AJ (IntKind.wrap .i64 (a2 + (IntKind.wrap .i64 ((IntKind.wrap .i64 (2 * a3)) + 1))))) z)) (AJ (IntKind.wrap .i64 (a2 + (IntKind.wrap .i64 ((IntKind.wrap .i64 (2 * a3)) + 1))))) (AS a0 (AJ (IntKind.wrap .i64 (a2 + a3))) z)), a1, a2, (IntKind.wrap .i64 ((IntKind.wrap .i64 (2 * a3)) + 1)), ()))
 | false => match idx a0 (IntKind.wrap .i64 (a2 + a3)) with
 | none => none
 | some x17 => match idx a0 (IntKind.wrap .i64 (a2 + (IntKind.wrap .i64 ((IntKind.wrap .i64 (2 * a3)) + 1)))) with
 | none => none
 | some x18 => match c ((AS a0 (AJ (IntKind.wrap .i64 (a2 + a3))) z), (AS a0 (AJ (IntKind.wrap .i64 (a2 + (IntKind.wrap .i64 ((IntKind.wrap .i64 (2 * a3)) + 1))))) z), ()) with
 | none => none
 | some (y19, _) => match (!(ilt y19 0)) with
 | true => some (.inr (.inr (.inl (a0, ()))))
 | false => match idx a0 (IntKind.wrap .i64 (a2 + (IntKind.wrap .i64 ((IntKind.wrap .i64 (2 * a3)) + 1)))) with
 | none => none
 | some x20 => match idx a0 (IntKind.wrap .i64 (a2 + a3)) with
 | none => none
 | some x21 => match idx a0 (IntKind.wrap .i64 (a2 + a3)) with
 | none => none
 | some x22 => match idx (Ap a0 (AJ (IntKind.wrap .i64 (a2 + a3))) (AS a0 (AJ (IntKind.wrap .i64 (a2 + (IntKind.wrap .i64 ((IntKind.wrap .i64 (2 * a3)) + 1))))) z)) (IntKind.wrap .i64 (a2 + (IntKind.wrap .i64 ((IntKind.wrap .i64 (2 * a3)) + 1)))) with
 | none => none
 | some x23 => some (.inl ((Ap (Ap a0 (AJ (IntKind.wrap .i64 (a2 + a3))) (AS a0 (AJ (IntKind.wrap .i64 (a2 + (IntKind.wrap .i64 ((IntKind.wrap .i64 (2 * a3)) + 1))))) z)) (AJ (IntKind.wrap .i64 (a2 + (IntKind.wrap .i64 ((IntKind.wrap .i64 (2 * a3)) + 1))))) (AS a0 (AJ (IntKind.wrap .i64 (a2 + a3))) z)), a1, a2, (IntKind.wrap .i64 ((IntKind.wrap .i64 (2 * a3)) + 1)), ()))
def Xh [Lk] {α : Type} (z : α) (c : α × α × Unit → Option U8) : (List α × Int × Int × Int × Unit) → Option ((List α × Unit)) := fun (a0, a1, a2, a3, _) =>
 match AT (LB z c) many (a0, a2, a3, a1, ()) with
 | none => none
 | some r => match r with
 | .inl (o0, _) => some (o0, ())
 | .inr r => match r with
 | .inl (o1, _) => some (o1, ())
 | .inr _ => none
def ANV [Lk] {α : Type} (z : α) (c : α × α × Unit → Option U8) (v : (List α × Int × Int × Int × Unit)) : Option ((List α × Unit)) := Lk.f ((Xh z c) v)
theorem Acl {α : Type} (z : α) (c : α × α × Unit → Option U8) (v : (List α × Int × Int × Int × Unit)) : (ANV z c) v = (Xh z c) v := AK _
def Lh [Lk] {α : Type} (z : α) (c : α × α × Unit → Option U8) : (List α × Int × Int × Int × Unit) → Option ((List α × Int × Int × Int × Unit) ⊕ (List α × Unit) ⊕ Unit) := fun (a0, a1, a2, a3, _) =>
 match (ile 0 a3) with
 | true => match idx a0 (IntKind.wrap .i64 (a1 + a3)) with
  | none => none
  | some x0 => match idx a0 a1 with
  | none => none
  | some x1 => match idx a0 a1 with
  | none => none
  | some x2 => match idx (Ap a0 (AJ a1) (AS a0 (AJ (IntKind.wrap .i64 (a1 + a3))) z)) (IntKind.wrap .i64 (a1 + a3)) with
  | none => none
  | some x3 => match (ANV z c) ((Ap (Ap a0 (AJ a1) (AS a0 (AJ (IntKind.wrap .i64 (a1 + a3))) z)) (AJ (IntKind.wrap .i64 (a1 + a3))) (AS a0 (AJ a1) z)), a2, a3, a1, ()) with
  | none => none
  | some (y4, _) => some (.inl (y4, a1, a2, (IntKind.wrap .i64 (a3 - 1)), ()))
 | false => some (.inr (.inl (a0, ())))
def Li [Lk] {α : Type} (z : α) (c : α × α × Unit → Option U8) : (List α × Int × Int × Int × Int × Unit) → Option ((List α × Int × Int × Int × Int × Unit) ⊕ (List α × Int × Int × Int × Unit) ⊕ Unit) := fun (a0, a1, a2, a3, a4, _) =>
 match (ile 0 a4) with
 | true => match (ANV z c) (a0, a4, a3, a1, ()) with
  | none => none
  | some (y0, _) => some (.inl (y0, a1, a2, a3, (IntKind.wrap .i64 (a4 - 1)), ()))
 | false => some (.inr (.inl (a0, a1, a2, a3, ())))
def Xu [Lk] {α : Type} (z : α) (c : α × α × Unit → Option U8) : (List α × Int × Int × Unit) → Option ((List α × Unit)) := fun (a0, a1, a2, _) =>
 match quo? .i64 (IntKind.wrap .i64 ((IntKind.wrap .i64 (a2 - a1)) - 1)) 2 with
 | none => none
 | some x0 => match AT (Li z c) many (a0, a1, 0, (IntKind.wrap .i64 (a2 - a1)), x0, ()) with
 | none => none
 | some r => match r with
 | .inl (o1, o2, o3, o4, _) => match AT (Lh z c) many (o1, o2, o3, (IntKind.wrap .i64 (o4 - 1)), ()) with
  | none => none
  | some r => match r with
  | .inl (o5, _) => some (o5, ())
  | .inr _ => none
 | .inr _ => none
def AXK [Lk] {α : Type} (z : α) (c : α × α × Unit → Option U8) (v : (List α × Int × Int × Unit)) : Option ((List α × Unit)) := Lk.f ((Xu z c) v)
theorem Aed {α : Type} (z : α) (c : α × α × Unit → Option U8) (v : (List α × Int × Int × Unit)) : (AXK z c) v = (Xu z c) v := AK _
def Gu [Lk] {α : Type} (z : α) (c : α × α × Unit → Option U8) : (List α × Int × Int × Int × Int × Int × Unit) → Option ((List α × Int × Int × Int × Int × Int × Unit) ⊕ (List α × Unit) ⊕ Unit) := fun (a0, a1, a2, a3, a4, a5, _) =>
 match quo? .i64 a2 4 with
 | none => none
 | some x0 => match (ile a5 (IntKind.wrap .i64 ((IntKind.wrap .i64 (a1 + (IntKind.wrap .i64 (x0 * 2)))) + 1))) with
 | true => match xorNext (a3, ()) with
  | none => none
  | some (y1, y2, _) => match (ile a2 (IntKind.wrap .i64 (IntKind.wrap .u64 ((BitVec.ofInt (IntKind.bits .u64) y2 &&& BitVec.ofInt (IntKind.bits .u64) (IntKind.wrap .u64 (a4 - 1))).toNat)))) with
  | true => match idx a0 (IntKind.wrap .i64 (a1 + (IntKind.wrap .i64 ((IntKind.wrap .i64 (IntKind.wrap .u64 ((BitVec.ofInt (IntKind.bits .u64) y2 &&& BitVec.ofInt (IntKind.bits .u64) (IntKind.wrap .u64 (a4 - 1))).toNat))) - a2)))) with
   | none => none
   | some x3 => match idx a0 a5 with
   | none => none
   | some x4 => match idx a0 a5 with
   | none => none
   | some x5 => match idx (Ap a0 (AJ a5) (AS a0 (AJ (IntKind.wrap .i64 (a1 + (IntKind.wrap .i64 ((IntKind.wrap .i64 (IntKind.wrap .u64 ((BitVec.ofInt (IntKind.bits .u64) y2 &&& BitVec.ofInt (IntKind.bits .u64) (IntKind.wrap .u64 (a4 - 1))).toNat))) - a2))))) z)) (IntKind.wrap .i64 (a1 + (IntKind.wrap .i64 ((IntKind.wrap .i64 (IntKind.wrap .u64 ((BitVec.ofInt (IntKind.bits .u64) y2 &&& BitVec.ofInt (IntKind.bits .u64) (IntKind.wrap .u64 (a4 - 1))).toNat))) - a2)))) with
   | none => none
   | some x6 => some (.inl ((Ap (Ap a0 (AJ a5) (AS a0 (AJ (IntKind.wrap .i64 (a1 + (IntKind.wrap .i64 ((IntKind.wrap .i64 (IntKind.wrap .u64 ((BitVec.ofInt (IntKind.bits .u64) y2 &&& BitVec.ofInt (IntKind.bits .u64) (IntKind.wrap .u64 (a4 - 1))).toNat))) - a2))))) z)) (AJ (IntKind.wrap .i64 (a1 + (IntKind.wrap .i64 ((IntKind.wrap .i64 (IntKind.wrap .u64 ((BitVec.ofInt (IntKind.bits .u64) y2 &&& BitVec.ofInt (IntKind.bits .u64) (IntKind.wrap .u64 (a4 - 1))).toNat))) - a2))))) (AS a0 (AJ a5) z)), a1, a2, y1, a4, (IntKind.wrap .i64 (a5 + 1)), ()))
  | false => match idx a0 (IntKind.wrap .i64 (a1 + (IntKind.wrap .i64 (IntKind.wrap .u64 ((BitVec.ofInt (IntKind.bits .u64) y2 &&& BitVec.ofInt (IntKind.bits .u64) (IntKind.wrap .u64 (a4 - 1))).toNat))))) with
  | none => none
  | some x7 => match idx a0 a5 with
  | none => none
  | some x8 => match idx a0 a5 with
  | none => none
  | some x9 => match idx (Ap a0 (AJ a5) (AS a0 (AJ (IntKind.wrap .i64 (a1 + (IntKind.wrap .i64 (IntKind.wrap .u64 ((BitVec.ofInt (IntKind.bits .u64) y2 &&& BitVec.ofInt (IntKind.bits .u64) (IntKind.wrap .u64 (a4 - 1))).toNat)))))) z)) (IntKind.wrap .i64 (a1 + (IntKind.wrap .i64 (IntKind.wrap .u64 ((BitVec.ofInt (IntKind.bits .u64) y2 &&& BitVec.ofInt (IntKind.bits .u64) (IntKind.wrap .u64 (a4 - 1))).toNat))))) with
  | none => none
  | some x10 => some (.inl ((Ap (Ap a0 (AJ a5) (AS a0 (AJ (IntKind.wrap .i64 (a1 + (IntKind.wrap .i64 (IntKind.wrap .u64 ((BitVec.ofInt (IntKind.bits .u64) y2 &&& BitVec.ofInt (IntKind.bits .u64) (IntKind.wrap .u64 (a4 - 1))).toNat)))))) z)) (AJ (IntKind.wrap .i64 (a1 + (IntKind.wrap .i64 (IntKind.wrap .u64 ((BitVec.ofInt (IntKind.bits .u64) y2 &&& BitVec.ofInt (IntKind.bits .u64) (IntKind.wrap .u64 (a4 - 1))).toNat)))))) (AS a0 (AJ a5) z)), a1, a2, y1, a4, (IntKind.wrap .i64 (a5 + 1)), ()))
 | false => some (.inr (.inl (a0, ())))
def RX [Lk] {α : Type} (z : α) (c : α × α × Unit → Option U8) : (List α × Int × Int × Unit) → Option ((List α × Unit)) := fun (a0, a1, a2, _) =>
 match (ile 8 (IntKind.wrap .i64 (a2 - a1))) with
 | true => match Qf ((IntKind.wrap .i64 (a2 - a1)), ()) with
  | none => none
  | some (y0, _) => match quo? .i64 (IntKind.wrap .i64 (a2 - a1)) 4 with
  | none => none
  | some x1 => match AT (Gu z c) many (a0, a1, (IntKind.wrap .i64 (a2 - a1)), (IntKind.wrap .u64 (IntKind.wrap .i64 (a2 - a1))), y0, (IntKind.wrap .i64 ((IntKind.wrap .i64 (a1 + (IntKind.wrap .i64 (x1 * 2)))) - 1)), ()) with
  | none => none
  | some r => match r with
  | .inl (o2, _) => some (o2, ())
  | .inr _ => none
 | false => some (a0, ())
def ALa [Lk] {α : Type} (z : α) (c : α × α × Unit → Option U8) (v : (List α × Int × Int × Unit)) : Option ((List α × Unit)) := Lk.f ((RX z c) v)
theorem AbK {α : Type} (z : α) (c : α × α × Unit → Option U8) (v : (List α × Int × Int × Unit)) : (ALa z c) v = (RX z c) v := AK _
def Mz [Lk] {α : Type} (z : α) (c : α × α × Unit → Option U8) : (List α × Int × Int × Int × Unit) → Option ((List α × Int × Int × Int × Unit)) := fun (a0, a1, a2, a3, _) =>
 match idx a0 a2 with
 | none => none
 | some x0 => match idx a0 a1 with
 | none => none
 | some x1 => match c ((AS a0 (AJ a2) z), (AS a0 (AJ a1) z), ()) with
 | none => none
 | some (y2, _) => match (ilt y2 0) with
 | true => some (a0, (IntKind.wrap .i64 (a3 + 1)), a2, a1, ())
 | false => some (a0, a3, a1, a2, ())
def M0 [Lk] {α : Type} (z : α) (c : α × α × Unit → Option U8) (v : (List α × Int × Int × Int × Unit)) : Option ((List α × Int × Int × Int × Unit)) := Lk.f ((Mz z c) v)
theorem ATa {α : Type} (z : α) (c : α × α × Unit → Option U8) (v : (List α × Int × Int × Int × Unit)) : (M0 z c) v = (Mz z c) v := AK _
def M5 [Lk] {α : Type} (z : α) (c : α × α × Unit → Option U8) : (List α × Int × Int × Int × Int × Unit) → Option ((List α × Int × Int × Unit)) := fun (a0, a1, a2, a3, a4, _) =>
 match (M0 z c) (a0, a1, a2, a4, ()) with
 | none => none
 | some (y0, y1, y2, y3, _) => match (M0 z c) (y0, y3, a3, y1, ()) with
 | none => none
 | some (y4, y5, y6, y7, _) => match (M0 z c) (y4, y2, y6, y5, ()) with
 | none => none
 | some (y8, y9, y10, y11, _) => some (y8, y9, y11, ())
def M6 [Lk] {α : Type} (z : α) (c : α × α × Unit → Option U8) (v : (List α × Int × Int × Int × Int × Unit)) : Option ((List α × Int × Int × Unit)) := Lk.f ((M5 z c) v)
theorem ATx {α : Type} (z : α) (c : α × α × Unit → Option U8) (v : (List α × Int × Int × Int × Int × Unit)) : (M6 z c) v = (M5 z c) v := AK _
def M7 [Lk] {α : Type} (z : α) (c : α × α × Unit → Option U8) : (List α × Int × Int × Unit) → Option ((List α × Int × Int × Unit)) := fun (a0, a1, a2, _) =>
 match (M6 z c) (a0, (IntKind.wrap .i64 (a1 - 1)), a1, (IntKind.wrap .i64 (a1 + 1)), a2, ()) with
 | none => none
 | some (y0, y1, y2, _) => some (y0, y1, y2, ())
def M8 [Lk] {α : Type} (z : α) (c : α × α × Unit → Option U8) (v : (List α × Int × Int × Unit)) : Option ((List α × Int × Int × Unit)) := Lk.f ((M7 z c) v)
theorem ATz {α : Type} (z : α) (c : α × α × Unit → Option U8) (v : (List α × Int × Int × Unit)) : (M8 z c) v = (M7 z c) v := AK _
def QU [Lk] {α : Type} (z : α) (c : α × α × Unit → Option U8) : (List α × Int × Int × Unit) → Option ((List α × Int × Int × Unit)) := fun (a0, a1, a2, _) =>
 match quo? .i64 (IntKind.wrap .i64 (a2 - a1)) 4 with
 | none => none
 | some x0 => match quo? .i64 (IntKind.wrap .i64 (a2 - a1)) 4 with
 | none => none
 | some x1 => match quo? .i64 (IntKind.wrap .i64 (a2 - a1)) 4 with
 | none => none
 | some x2 => match (ile 8 (IntKind.wrap .i64 (a2 - a1))) with
 | true => match (ile 50 (IntKind.wrap .i64 (a2 - a1))) with
  | true => match (M8 z c) (a0, (IntKind.wrap .i64 (a1 + (IntKind.wrap .i64 (x0 * 1)))), 0, ()) with
   | none => none
   | some (y3, y4, y5, _) => match (M8 z c) (y3, (IntKind.wrap .i64 (a1 + (IntKind.wrap .i64 (x1 * 2)))), y4, ()) with
   | none => none
   | some (y6, y7, y8, _) => match (M8 z c) (y6, (IntKind.wrap .i64 (a1 + (IntKind.wrap .i64 (x2 * 3)))), y7, ()) with
   | none => none
   | some (y9, y10, y11, _) => match (M6 z c) (y9, y5, y8, y11, y10, ()) with
   | none => none
   | some (y12, y13, y14, _) => match (ieq y13 0) with
   | true => some (y12, y14, 1, ())
   | false => match (ieq y13 12) with
   | true => some (y12, y14, 2, ())
   | false => some (y12, y14, 0, ())
  | false => match (M6 z c) (a0, (IntKind.wrap .i64 (a1 + (IntKind.wrap .i64 (x0 * 1)))), (IntKind.wrap .i64 (a1 + (IntKind.wrap .i64 (x1 * 2)))), (IntKind.wrap .i64 (a1 + (IntKind.wrap .i64 (x2 * 3)))), 0, ()) with
  | none => none
  | some (y15, y16, y17, _) => match (ieq y16 0) with
  | true => some (y15, y17, 1, ())
  | false => match (ieq y16 12) with
  | true => some (y15, y17, 2, ())
  | false => some (y15, y17, 0, ())
 | false => match (ieq 0 0) with
 | true => some (a0, (IntKind.wrap .i64 (a1 + (IntKind.wrap .i64 (x1 * 2)))), 1, ())
 | false => match (ieq 0 12) with
 | true => some (a0, (IntKind.wrap .i64 (a1 + (IntKind.wrap .i64 (x1 * 2)))), 2, ())
 | false => some (a0, (IntKind.wrap .i64 (a1 + (IntKind.wrap .i64 (x1 * 2)))), 0, ())
def AJZ [Lk] {α : Type} (z : α) (c : α × α × Unit → Option U8) (v : (List α × Int × Int × Unit)) : Option ((List α × Int × Int × Unit)) := Lk.f ((QU z c) v)
theorem AZO {α : Type} (z : α) (c : α × α × Unit → Option U8) (v : (List α × Int × Int × Unit)) : (AJZ z c) v = (QU z c) v := AK _
def Xj [Lk] {α : Type} (z : α) (c : α × α × Unit → Option U8) : (List α × Int × Int × Unit) → Option ((List α × Int × Int × Unit) ⊕ (List α × Unit) ⊕ Unit) := fun (a0, a1, a2, _) =>
 match (ilt a1 a2) with
 | true => match idx a0 a2 with
  | none => none
  | some x0 => match idx a0 a1 with
  | none => none
  | some x1 => match idx a0 a1 with
  | none => none
  | some x2 => match idx (Ap a0 (AJ a1) (AS a0 (AJ a2) z)) a2 with
  | none => none
  | some x3 => some (.inl ((Ap (Ap a0 (AJ a1) (AS a0 (AJ a2) z)) (AJ a2) (AS a0 (AJ a1) z)), (IntKind.wrap .i64 (a1 + 1)), (IntKind.wrap .i64 (a2 - 1)), ()))
 | false => some (.inr (.inl (a0, ())))
def AJD [Lk] {α : Type} (z : α) (c : α × α × Unit → Option U8) : (List α × Int × Int × Unit) → Option ((List α × Unit)) := fun (a0, a1, a2, _) =>
 match AT (Xj z c) many (a0, a1, (IntKind.wrap .i64 (a2 - 1)), ()) with
 | none => none
 | some r => match r with
 | .inl (o0, _) => some (o0, ())
 | .inr _ => none
def AgT [Lk] {α : Type} (z : α) (c : α × α × Unit → Option U8) (v : (List α × Int × Int × Unit)) : Option ((List α × Unit)) := Lk.f ((AJD z c) v)
theorem AgS {α : Type} (z : α) (c : α × α × Unit → Option U8) (v : (List α × Int × Int × Unit)) : (AgT z c) v = (AJD z c) v := AK _
def Fm [Lk] {α : Type} (z : α) (c : α × α × Unit → Option U8) : (List α × Int × Int × Int × Int × Int × Unit) → Option ((List α × Int × Int × Int × Int × Int × Unit) ⊕ (List α × Int × Int × Int × Int × Unit) ⊕ Unit) := fun (a0, a1, a2, a3, a4, a5, _) =>
 match (ilt a5 a2) with
 | true => match idx a0 a5 with
  | none => none
  | some x0 => match idx a0 (IntKind.wrap .i64 (a5 - 1)) with
  | none => none
  | some x1 => match c ((AS a0 (AJ a5) z), (AS a0 (AJ (IntKind.wrap .i64 (a5 - 1))) z), ()) with
  | none => none
  | some (y2, _) => match (!(ilt y2 0)) with
  | true => some (.inr (.inl (a0, a1, a2, a3, a4, ())))
  | false => match idx a0 (IntKind.wrap .i64 (a5 - 1)) with
  | none => none
  | some x3 => match idx a0 a5 with
  | none => none
  | some x4 => match idx a0 a5 with
  | none => none
  | some x5 => match idx (Ap a0 (AJ a5) (AS a0 (AJ (IntKind.wrap .i64 (a5 - 1))) z)) (IntKind.wrap .i64 (a5 - 1)) with
  | none => none
  | some x6 => some (.inl ((Ap (Ap a0 (AJ a5) (AS a0 (AJ (IntKind.wrap .i64 (a5 - 1))) z)) (AJ (IntKind.wrap .i64 (a5 - 1))) (AS a0 (AJ a5) z)), a1, a2, a3, a4, (IntKind.wrap .i64 (a5 + 1)), ()))
 | false => some (.inr (.inl (a0, a1, a2, a3, a4, ())))
def Fp [Lk] {α : Type} (z : α) (c : α × α × Unit → Option U8) : (List α × Int × Int × Int × Int × Int × Unit) → Option ((List α × Int × Int × Int × Int × Int × Unit) ⊕ (List α × Int × Int × Int × Int × Unit) ⊕ Unit) := fun (a0, a1, a2, a3, a4, a5, _) =>
 match (ile 1 a5) with
 | true => match idx a0 a5 with
  | none => none
  | some x0 => match idx a0 (IntKind.wrap .i64 (a5 - 1)) with
  | none => none
  | some x1 => match c ((AS a0 (AJ a5) z), (AS a0 (AJ (IntKind.wrap .i64 (a5 - 1))) z), ()) with
  | none => none
  | some (y2, _) => match (!(ilt y2 0)) with
  | true => some (.inr (.inl (a0, a1, a2, a3, a4, ())))
  | false => match idx a0 (IntKind.wrap .i64 (a5 - 1)) with
  | none => none
  | some x3 => match idx a0 a5 with
  | none => none
  | some x4 => match idx a0 a5 with
  | none => none
  | some x5 => match idx (Ap a0 (AJ a5) (AS a0 (AJ (IntKind.wrap .i64 (a5 - 1))) z)) (IntKind.wrap .i64 (a5 - 1)) with
  | none => none
  | some x6 => some (.inl ((Ap (Ap a0 (AJ a5) (AS a0 (AJ (IntKind.wrap .i64 (a5 - 1))) z)) (AJ (IntKind.wrap .i64 (a5 - 1))) (AS a0 (AJ a5) z)), a1, a2, a3, a4, (IntKind.wrap .i64 (a5 - 1)), ()))
 | false => some (.inr (.inl (a0, a1, a2, a3, a4, ())))
def Hw [Lk] {α : Type} (z : α) (c : α × α × Unit → Option U8) : (List α × Int × Int × Int × Int × Unit) → Option ((List α × Int × Int × Int × Int × Unit) ⊕ (List α × Int × Int × Int × Int × Unit) ⊕ Unit) := fun (a0, a1, a2, a3, a4, _) =>
 match (ilt a3 a2) with
 | true => match idx a0 a3 with
  | none => none
  | some x0 => match idx a0 (IntKind.wrap .i64 (a3 - 1)) with
  | none => none
  | some x1 => match c ((AS a0 (AJ a3) z), (AS a0 (AJ (IntKind.wrap .i64 (a3 - 1))) z), ()) with
  | none => none
  | some (y2, _) => match (!(ilt y2 0)) with
  | true => some (.inl (a0, a1, a2, (IntKind.wrap .i64 (a3 + 1)), a4, ()))
  | false => some (.inr (.inl (a0, a1, a2, a3, a4, ())))
 | false => some (.inr (.inl (a0, a1, a2, a3, a4, ())))
def CL [Lk] {α : Type} (z : α) (c : α × α × Unit → Option U8) : (List α × Int × Int × Int × Int × Unit) → Option ((List α × Int × Int × Int × Int × Unit) ⊕ (List α × Bool × Unit) ⊕ (List α × Unit) ⊕ Unit) := fun (a0, a1, a2, a3, a4, _) =>
 match (ilt a4 5) with
 | true => match AT (Hw z c) many (a0, a1, a2, a3, a4, ()) with
  | none => none
  | some r => match r with
  | .inl (o0, o1, o2, o3, o4, _) => match (ieq o3 o2) with
   | true => some (.inr (.inl (o0, true, ())))
   | false => match (ilt (IntKind.wrap .i64 (o2 - o1)) 50) with
   | true => some (.inr (.inl (o0, false, ())))
   | false => match idx o0 (IntKind.wrap .i64 (o3 - 1)) with
   | none => none
   | some x5 => match idx o0 o3 with
   | none => none
   | some x6 => match idx o0 o3 with
   | none => none
   | some x7 => match idx (Ap o0 (AJ o3) (AS o0 (AJ (IntKind.wrap .i64 (o3 - 1))) z)) (IntKind.wrap .i64 (o3 - 1)) with
   | none => none
   | some x8 => match (ile 2 (IntKind.wrap .i64 (o3 - o1))) with
   | true => match AT (Fp z c) many ((Ap (Ap o0 (AJ o3) (AS o0 (AJ (IntKind.wrap .i64 (o3 - 1))) z)) (AJ (IntKind.wrap .i64 (o3 - 1))) (AS o0 (AJ o3) z)), o1, o2, o3, o4, (IntKind.wrap .i64 (o3 - 1)), ()) with
    | none => none
    | some r => match r with
    | .inl (o9, o10, o11, o12, o13, _) => match (ile 2 (IntKind.wrap .i64 (o11 - o12))) with
     | true => match AT (Fm z c) many (o9, o10, o11, o12, o13, (IntKind.wrap .i64 (o12 + 1)), ()) with
      | none => none
      | some r => match r with
      | .inl (o14, o15, o16, o17, o18, _) => some (.inl (o14, o15, o16, o17, (IntKind.wrap .i64 (o18 + 1)), ()))
      | .inr _ => none
     | false => some (.inl (o9, o10, o11, o12, (IntKind.wrap .i64 (o13 + 1)), ()))
    | .inr _ => none
   | false => match (ile 2 (IntKind.wrap .i64 (o2 - o3))) with
   | true => match AT (Fm z c) many ((Ap (Ap o0 (AJ o3) (AS o0 (AJ (IntKind.wrap .i64 (o3 - 1))) z)) (AJ (IntKind.wrap .i64 (o3 - 1))) (AS o0 (AJ o3) z)), o1, o2, o3, o4, (IntKind.wrap .i64 (o3 + 1)), ()) with
    | none => none
    | some r => match r with
    | .inl (o19, o20, o21, o22, o23, _) => some (.inl (o19, o20, o21, o22, (IntKind.wrap .i64 (o23 + 1)), ()))
    | .inr _ => none
   | false => some (.inl ((Ap (Ap o0 (AJ o3) (AS o0 (AJ (IntKind.wrap .i64 (o3 - 1))) z)) (AJ (IntKind.wrap .i64 (o3 - 1))) (AS o0 (AJ o3) z)), o1, o2, o3, (IntKind.wrap .i64 (o4 + 1)), ()))
  | .inr _ => none
 | false => some (.inr (.inr (.inl (a0, ()))))
def Jq [Lk] {α : Type} (z : α) (c : α × α × Unit → Option U8) : (List α × Int × Int × Unit) → Option ((List α × Bool × Unit)) := fun (a0, a1, a2, _) =>
 match AT (CL z c) many (a0, a1, a2, (IntKind.wrap .i64 (a1 + 1)), 0, ()) with
 | none => none
 | some r => match r with
 | .inl (o0, o1, _) => some (o0, o1, ())
 | .inr r => match r with
 | .inl (o2, _) => some (o2, false, ())
 | .inr _ => none
def QX [Lk] {α : Type} (z : α) (c : α × α × Unit → Option U8) (v : (List α × Int × Int × Unit)) : Option ((List α × Bool × Unit)) := Lk.f ((Jq z c) v)
theorem AOl {α : Type} (z : α) (c : α × α × Unit → Option U8) (v : (List α × Int × Int × Unit)) : (QX z c) v = (Jq z c) v := AK _
def Jr [Lk] {α : Type} (z : α) (c : α × α × Unit → Option U8) : (List α × Int × Int × Int × Unit) → Option ((List α × Int × Int × Int × Unit) ⊕ (List α × Int × Int × Int × Unit) ⊕ Unit) := fun (a0, a1, a2, a3, _) =>
 match (ile a2 a3) with
 | true => match idx a0 a1 with
  | none => none
  | some x0 => match idx a0 a3 with
  | none => none
  | some x1 => match c ((AS a0 (AJ a1) z), (AS a0 (AJ a3) z), ()) with
  | none => none
  | some (y2, _) => match (ilt y2 0) with
  | true => some (.inl (a0, a1, a2, (IntKind.wrap .i64 (a3 - 1)), ()))
  | false => some (.inr (.inl (a0, a1, a2, a3, ())))
 | false => some (.inr (.inl (a0, a1, a2, a3, ())))
def Js [Lk] {α : Type} (z : α) (c : α × α × Unit → Option U8) : (List α × Int × Int × Int × Unit) → Option ((List α × Int × Int × Int × Unit) ⊕ (List α × Int × Int × Int × Unit) ⊕ Unit) := fun (a0, a1, a2, a3, _) =>
 match (ile a2 a3) with
 | true => match idx a0 a1 with
  | none => none
  | some x0 => match idx a0 a2 with
  | none => none
  | some x1 => match c ((AS a0 (AJ a1) z), (AS a0 (AJ a2) z), ()) with
  | none => none
  | some (y2, _) => match (!(ilt y2 0)) with
  | true => some (.inl (a0, a1, (IntKind.wrap .i64 (a2 + 1)), a3, ()))
  | false => some (.inr (.inl (a0, a1, a2, a3, ())))
 | false => some (.inr (.inl (a0, a1, a2, a3, ())))
def Jt [Lk] {α : Type} (z : α) (c : α × α × Unit → Option U8) : (List α × Int × Int × Int × Unit) → Option ((List α × Int × Int × Int × Unit) ⊕ (List α × Int × Unit) ⊕ Unit) := fun (a0, a1, a2, a3, _) =>
 match AT (Js z c) many (a0, a1, a2, a3, ()) with
 | none => none
 | some r => match r with
 | .inl (o0, o1, o2, o3, _) => match AT (Jr z c) many (o0, o1, o2, o3, ()) with
  | none => none
  | some r => match r with
  | .inl (o4, o5, o6, o7, _) => match (ilt o7 o6) with
   | true => some (.inr (.inl (o4, o6, ())))
   | false => match idx o4 o7 with
   | none => none
   | some x8 => match idx o4 o6 with
   | none => none
   | some x9 => match idx o4 o6 with
   | none => none
   | some x10 => match idx (Ap o4 (AJ o6) (AS o4 (AJ o7) z)) o7 with
   | none => none
   | some x11 => some (.inl ((Ap (Ap o4 (AJ o6) (AS o4 (AJ o7) z)) (AJ o7) (AS o4 (AJ o6) z)), o5, (IntKind.wrap .i64 (o6 + 1)), (IntKind.wrap .i64 (o7 - 1)), ()))
  | .inr _ => none
 | .inr _ => none
def Mx [Lk] {α : Type} (z : α) (c : α × α × Unit → Option U8) : (List α × Int × Int × Int × Unit) → Option ((List α × Int × Unit)) := fun (a0, a1, a2, a3, _) =>
 match idx a0 a3 with
 | none => none
 | some x0 => match idx a0 a1 with
 | none => none
 | some x1 => match idx a0 a1 with
 | none => none
 | some x2 => match idx (Ap a0 (AJ a1) (AS a0 (AJ a3) z)) a3 with
 | none => none
 | some x3 => match AT (Jt z c) many ((Ap (Ap a0 (AJ a1) (AS a0 (AJ a3) z)) (AJ a3) (AS a0 (AJ a1) z)), a1, (IntKind.wrap .i64 (a1 + 1)), (IntKind.wrap .i64 (a2 - 1)), ()) with
 | none => none
 | some r => match r with
 | .inl (o4, o5, _) => some (o4, o5, ())
 | .inr _ => none
def Xo [Lk] {α : Type} (z : α) (c : α × α × Unit → Option U8) (v : (List α × Int × Int × Int × Unit)) : Option ((List α × Int × Unit)) := Lk.f ((Mx z c) v)
theorem ATY {α : Type} (z : α) (c : α × α × Unit → Option U8) (v : (List α × Int × Int × Int × Unit)) : (Xo z c) v = (Mx z c) v := AK _
def QY [Lk] {α : Type} (z : α) (c : α × α × Unit → Option U8) : (List α × Int × Int × Int × Unit) → Option ((List α × Int × Int × Int × Unit) ⊕ (List α × Int × Int × Int × Unit) ⊕ Unit) := fun (a0, a1, a2, a3, _) =>
 match (ile a2 a3) with
 | true => match idx a0 a3 with
  | none => none
  | some x0 => match idx a0 a1 with
  | none => none
  | some x1 => match c ((AS a0 (AJ a3) z), (AS a0 (AJ a1) z), ()) with
  | none => none
  | some (y2, _) => match (!(ilt y2 0)) with
  | true => some (.inl (a0, a1, a2, (IntKind.wrap .i64 (a3 - 1)), ()))
  | false => some (.inr (.inl (a0, a1, a2, a3, ())))
 | false => some (.inr (.inl (a0, a1, a2, a3, ())))
def QZ [Lk] {α : Type} (z : α) (c : α × α × Unit → Option U8) : (List α × Int × Int × Int × Unit) → Option ((List α × Int × Int × Int × Unit) ⊕ (List α × Int × Int × Int × Unit) ⊕ Unit) := fun (a0, a1, a2, a3, _) =>
 match (ile a2 a3) with
 | true => match idx a0 a2 with
  | none => none
  | some x0 => match idx a0 a1 with
  | none => none
  | some x1 => match c ((AS a0 (AJ a2) z), (AS a0 (AJ a1) z), ()) with
  | none => none
  | some (y2, _) => match (ilt y2 0) with
  | true => some (.inl (a0, a1, (IntKind.wrap .i64 (a2 + 1)), a3, ()))
  | false => some (.inr (.inl (a0, a1, a2, a3, ())))
 | false => some (.inr (.inl (a0, a1, a2, a3, ())))
def Qa [Lk] {α : Type} (z : α) (c : α × α × Unit → Option U8) : (List α × Int × Int × Int × Unit) → Option ((List α × Int × Int × Int × Unit) ⊕ (List α × Int × Int × Unit) ⊕ Unit) := fun (a0, a1, a2, a3, _) =>
 match AT (QZ z c) many (a0, a1, a2, a3, ()) with
 | none => none
 | some r => match r with
 | .inl (o0, o1, o2, o3, _) => match AT (QY z c) many (o0, o1, o2, o3, ()) with
  | none => none
  | some r => match r with
  | .inl (o4, o5, o6, o7, _) => match (ilt o7 o6) with
   | true => some (.inr (.inl (o4, o5, o7, ())))
   | false => match idx o4 o7 with
   | none => none
   | some x8 => match idx o4 o6 with
   | none => none
   | some x9 => match idx o4 o6 with
   | none => none
   | some x10 => match idx (Ap o4 (AJ o6) (AS o4 (AJ o7) z)) o7 with
   | none => none
   | some x11 => some (.inl ((Ap (Ap o4 (AJ o6) (AS o4 (AJ o7) z)) (AJ o7) (AS o4 (AJ o6) z)), o5, (IntKind.wrap .i64 (o6 + 1)), (IntKind.wrap .i64 (o7 - 1)), ()))
  | .inr _ => none
 | .inr _ => none
def Qb [Lk] {α : Type} (z : α) (c : α × α × Unit → Option U8) : (List α × Int × Int × Int × Unit) → Option ((List α × Int × Int × Int × Unit) ⊕ (List α × Int × Int × Int × Unit) ⊕ Unit) := fun (a0, a1, a2, a3, _) =>
 match (ile a2 a3) with
 | true => match idx a0 a3 with
  | none => none
  | some x0 => match idx a0 a1 with
  | none => none
  | some x1 => match c ((AS a0 (AJ a3) z), (AS a0 (AJ a1) z), ()) with
  | none => none
  | some (y2, _) => match (!(ilt y2 0)) with
  | true => some (.inl (a0, a1, a2, (IntKind.wrap .i64 (a3 - 1)), ()))
  | false => some (.inr (.inl (a0, a1, a2, a3, ())))
 | false => some (.inr (.inl (a0, a1, a2, a3, ())))
def Qc [Lk] {α : Type} (z : α) (c : α × α × Unit → Option U8) : (List α × Int × Int × Int × Unit) → Option ((List α × Int × Int × Int × Unit) ⊕ (List α × Int × Int × Int × Unit) ⊕ Unit) := fun (a0, a1, a2, a3, _) =>
 match (ile a2 a3) with
 | true => match idx a0 a2 with
  | none => none
  | some x0 => match idx a0 a1 with
  | none => none
  | some x1 => match c ((AS a0 (AJ a2) z), (AS a0 (AJ a1) z), ()) with
  | none => none
  | some (y2, _) => match (ilt y2 0) with
  | true => some (.inl (a0, a1, (IntKind.wrap .i64 (a2 + 1)), a3, ()))
  | false => some (.inr (.inl (a0, a1, a2, a3, ())))
 | false => some (.inr (.inl (a0, a1, a2, a3, ())))
def Xn [Lk] {α : Type} (z : α) (c : α × α × Unit → Option U8) : (List α × Int × Int × Int × Unit) → Option ((List α × Int × Bool × Unit)) := fun (a0, a1, a2, a3, _) =>
 match idx a0 a3 with
 | none => none
 | some x0 => match idx a0 a1 with
 | none => none
 | some x1 => match idx a0 a1 with
 | none => none
 | some x2 => match idx (Ap a0 (AJ a1) (AS a0 (AJ a3) z)) a3 with
 | none => none
 | some x3 => match AT (Qc z c) many ((Ap (Ap a0 (AJ a1) (AS a0 (AJ a3) z)) (AJ a3) (AS a0 (AJ a1) z)), a1, (IntKind.wrap .i64 (a1 + 1)), (IntKind.wrap .i64 (a2 - 1)), ()) with
 | none => none
 | some r => match r with
 | .inl (o4, o5, o6, o7, _) => match AT (Qb z c) many (o4, o5, o6, o7, ()) with
  | none => none
  | some r => match r with
  | .inl (o8, o9, o10, o11, _) => match (ilt o11 o10) with
   | true => match idx o8 o9 with
    | none => none
    | some x12 => match idx o8 o11 with
    | none => none
    | some x13 => match idx o8 o11 with
    | none => none
    | some x14 => match idx (Ap o8 (AJ o11) (AS o8 (AJ o9) z)) o9 with
    | none => none
    | some x15 => some ((Ap (Ap o8 (AJ o11) (AS o8 (AJ o9) z)) (AJ o9) (AS o8 (AJ o11) z)), o11, true, ())
   | false => match idx o8 o11 with
   | none => none
   | some x16 => match idx o8 o10 with
   | none => none
   | some x17 => match idx o8 o10 with
   | none => none
   | some x18 => match idx (Ap o8 (AJ o10) (AS o8 (AJ o11) z)) o11 with
   | none => none
   | some x19 => match AT (Qa z c) many ((Ap (Ap o8 (AJ o10) (AS o8 (AJ o11) z)) (AJ o11) (AS o8 (AJ o10) z)), o9, (IntKind.wrap .i64 (o10 + 1)), (IntKind.wrap .i64 (o11 - 1)), ()) with
   | none => none
   | some r => match r with
   | .inl (o20, o21, o22, _) => match idx o20 o21 with
    | none => none
    | some x23 => match idx o20 o22 with
    | none => none
    | some x24 => match idx o20 o22 with
    | none => none
    | some x25 => match idx (Ap o20 (AJ o22) (AS o20 (AJ o21) z)) o21 with
    | none => none
    | some x26 => some ((Ap (Ap o20 (AJ o22) (AS o20 (AJ o21) z)) (AJ o21) (AS o20 (AJ o22) z)), o22, false, ())
   | .inr _ => none
  | .inr _ => none
 | .inr _ => none
def AGF [Lk] {α : Type} (z : α) (c : α × α × Unit → Option U8) (v : (List α × Int × Int × Int × Unit)) : Option ((List α × Int × Bool × Unit)) := Lk.f ((Xn z c) v)
theorem AdV {α : Type} (z : α) (c : α × α × Unit → Option U8) (v : (List α × Int × Int × Int × Unit)) : (AGF z c) v = (Xn z c) v := AK _
def TS [Lk] {α : Type} (z : α) (c : α × α × Unit → Option U8) (self : (List α × Int × Int × Int × Unit) → Option ((List α × Unit))) (y7 : List α) (a1 a2 p l : Int) (a4 a5 : Bool) : Option ((List α × Int × Int × Int × Bool × Bool × Unit) ⊕ (List α × Unit) ⊕ Unit) :=
 match (ilt 0 a1) with
 | true => match idx y7 (IntKind.wrap .i64 (a1 - 1)) with
  | none => none
  | some x9 => match idx y7 p with
  | none => none
  | some x10 => match c ((AS y7 (AJ (IntKind.wrap .i64 (a1 - 1))) z), (AS y7 (AJ p) z), ()) with
  | none => none
  | some (y11, _) => match (!(ilt y11 0)) with
  | true => match (Xo z c) (y7, a1, a2, p, ()) with
   | none => none
   | some (y12, y13, _) => some (.inl (y12, y13, a2, l, a4, a5, ()))
  | false => match (AGF z c) (y7, a1, a2, p, ()) with
  | none => none
  | some (y14, y15, y16, _) => match quo? .i64 (IntKind.wrap .i64 (a2 - a1)) 8 with
  | none => none
  | some x17 => match (ilt (IntKind.wrap .i64 (y15 - a1)) (IntKind.wrap .i64 (a2 - y15))) with
  | true => match self (y14, a1, y15, l, ()) with
   | none => none
   | some (y18, _) => some (.inl (y18, (IntKind.wrap .i64 (y15 + 1)), a2, l, (ile x17 (IntKind.wrap .i64 (y15 - a1))), y16, ()))
  | false => match self (y14, (IntKind.wrap .i64 (y15 + 1)), a2, l, ()) with
  | none => none
  | some (y19, _) => some (.inl (y19, a1, y15, l, (ile x17 (IntKind.wrap .i64 (a2 - y15))), y16, ()))
 | false => match (AGF z c) (y7, a1, a2, p, ()) with
 | none => none
 | some (y20, y21, y22, _) => match quo? .i64 (IntKind.wrap .i64 (a2 - a1)) 8 with
 | none => none
 | some x23 => match (ilt (IntKind.wrap .i64 (y21 - a1)) (IntKind.wrap .i64 (a2 - y21))) with
 | true => match self (y20, a1, y21, l, ()) with
  | none => none
  | some (y24, _) => some (.inl (y24, (IntKind.wrap .i64 (y21 + 1)), a2, l, (ile x23 (IntKind.wrap .i64 (y21 - a1))), y22, ()))
 | false => match self (y20, (IntKind.wrap .i64 (y21 + 1)), a2, l, ()) with
 | none => none
 | some (y25, _) => some (.inl (y25, a1, y21, l, (ile x23 (IntKind.wrap .i64 (a2 - y21))), y22, ()))
def AJd [Lk] {α : Type} (z : α) (c : α × α × Unit → Option U8) (self : (List α × Int × Int × Int × Unit) → Option ((List α × Unit))) (y6 : List α) (a1 a2 p h l : Int) (a4 a5 : Bool) : Option ((List α × Int × Int × Int × Bool × Bool × Unit) ⊕ (List α × Unit) ⊕ Unit) :=
 match a4 with
 | true => match a5 with
  | true => match (ieq h 1) with
   | true => match (QX z c) (y6, a1, a2, ()) with
    | none => none
    | some (y7, y8, _) => match y8 with
    | true => some (.inr (.inl (y7, ())))
    | false => (TS z c) self y7 a1 a2 p l a4 a5
   | false => (TS z c) self y6 a1 a2 p l a4 a5
  | false => (TS z c) self y6 a1 a2 p l a4 a5
 | false => (TS z c) self y6 a1 a2 p l a4 a5
def AJc [Lk] {α : Type} (z : α) (c : α × α × Unit → Option U8) (self : (List α × Int × Int × Int × Unit) → Option ((List α × Unit))) (y2 : List α) (a1 a2 l : Int) (a4 a5 : Bool) : Option ((List α × Int × Int × Int × Bool × Bool × Unit) ⊕ (List α × Unit) ⊕ Unit) :=
 match (AJZ z c) (y2, a1, a2, ()) with
 | none => none
 | some (y3, y4, y5, _) => match (ieq y5 2) with
 | true => match (AgT z c) (y3, a1, a2, ()) with
  | none => none
  | some (y6, _) => (AJd z c) self y6 a1 a2 (IntKind.wrap .i64 ((IntKind.wrap .i64 (a2 - 1)) - (IntKind.wrap .i64 (y4 - a1)))) 1 l a4 a5
 | false => (AJd z c) self y3 a1 a2 y4 y5 l a4 a5
def QW [Lk] {α : Type} (z : α) (c : α × α × Unit → Option U8) (self : (List α × Int × Int × Int × Unit) → Option ((List α × Unit))) : (List α × Int × Int × Int × Bool × Bool × Unit) → Option ((List α × Int × Int × Int × Bool × Bool × Unit) ⊕ (List α × Unit) ⊕ Unit) := fun (a0, a1, a2, a3, a4, a5, _) =>
 match (ile (IntKind.wrap .i64 (a2 - a1)) 12) with
 | true => match (AeO z c) (a0, a1, a2, ()) with
  | none => none
  | some (y0, _) => some (.inr (.inl (y0, ())))
 | false => match (ieq a3 0) with
 | true => match (AXK z c) (a0, a1, a2, ()) with
  | none => none
  | some (y1, _) => some (.inr (.inl (y1, ())))
 | false => match (!a4) with
 | true => match (ALa z c) (a0, a1, a2, ()) with
  | none => none
  | some (y2, _) => (AJc z c) self y2 a1 a2 (IntKind.wrap .i64 (a3 - 1)) a4 a5
 | false => (AJc z c) self a0 a1 a2 a3 a4 a5
def AJe [Lk] {α : Type} (z : α) (c : α × α × Unit → Option U8) (self : (List α × Int × Int × Int × Unit) → Option ((List α × Unit))) : (List α × Int × Int × Int × Unit) → Option ((List α × Unit)) := fun (a0, a1, a2, a3, _) =>
 match AT ((QW z c) self) many (a0, a1, a2, a3, true, true, ()) with
 | none => none
 | some r => match r with
 | .inl (o0, _) => some (o0, ())
 | .inr _ => none
def LM [Lk] {α : Type} (z : α) (c : α × α × Unit → Option U8) : Nat → (List α × Int × Int × Int × Unit) → Option ((List α × Unit))
 | 0, _ => none
 | n + 1, v => (AJe z c) ((LM z c) n) v
def Agb [Lk] {α : Type} (z : α) (c : α × α × Unit → Option U8) (v : (List α × Int × Int × Int × Unit)) : Option ((List α × Unit)) := Lk.f ((LM z c) 100 v)
theorem Aga {α : Type} (z : α) (c : α × α × Unit → Option U8) (v : (List α × Int × Int × Int × Unit)) : (Agb z c) v = (LM z c) 100 v := AK _
def Xf [Lk] {α : Type} (z : α) (c : α × α × Unit → Option U8) : (List α × Unit) → Option ((List α × Unit)) := fun (a0, _) =>
 match bitsLen ((IntKind.wrap .u64 (AO a0)), ()) with
 | none => none
 | some (y0, _) => match (Agb z c) (a0, 0, (AO a0), y0, ()) with
 | none => none
 | some (y1, _) => some (y1, ())
def AcR [Lk] {α : Type} (z : α) (c : α × α × Unit → Option U8) (v : (List α × Unit)) : Option ((List α × Unit)) := Lk.f ((Xf z c) v)
theorem AcQ {α : Type} (z : α) (c : α × α × Unit → Option U8) (v : (List α × Unit)) : (AcR z c) v = (Xf z c) v := AK _
abbrev AUb : AE := [(.tmp 0, .own 55 U6), (.tmp 1, .di), (.tmp 2, .di), (.tmp 3, .clo 204 [])]
abbrev AUa : AE := [(.obj 0, .own 55 U6)]
abbrev AUZ : List RS := []
abbrev AXD : AE := [(.obj 0, .own 55 U6), (.tmp 0, .own' 0), (.tmp 1, .di), (.tmp 2, .di), (.tmp 3, .clo 204 []), (.tmp 8, .di), (.tmp 9, .di)]
abbrev AXB : Am := [(.exit 2, [(.obj 0, .own 55 U6), (.tmp 0, .own' 0), (.tmp 1, .di), (.tmp 2, .di), (.tmp 3, .clo 204 []), (.tmp 8, .di)])]
def AW9 [Lk] : Uh → Option (Uh ⊕ U7 ⊕ Unit) := NB (([] : List (Int)) : U4) BB
abbrev AXE : AE := [(.obj 0, .own 55 U6), (.tmp 0, .own' 0), (.tmp 1, .di), (.tmp 2, .di), (.tmp 3, .clo 204 []), (.tmp 8, .di)]
abbrev AXC : Am := [(.exit 0, [(.obj 0, .own 55 U6)])]
def AXA [Lk] : U7 → Option (U7 ⊕ Uj ⊕ Unit) := NC (([] : List (Int)) : U4) BB
def AeL [Lk] : Ue → Option (Uj) := ACE (([] : List (Int)) : U4) BB
def AiG [Lk] (v : Ue) : Option (Uj) := AeO (([] : List (Int)) : U4) BB v
theorem Ag3 v : AiG v = AeL v := AK _
abbrev AIp : AE := [(.tmp 0, .own 55 U6), (.tmp 1, .di), (.tmp 2, .di), (.tmp 3, .di), (.tmp 4, .clo 204 [])]
abbrev AIo : AE := [(.obj 0, .own 55 U6)]
abbrev AIn : List RS := []
abbrev ANU : AE := [(.obj 0, .own 55 U6), (.tmp 0, .own' 0), (.tmp 2, .di), (.tmp 3, .di), (.tmp 4, .clo 204 []), (.tmp 10, .di)]
abbrev ANT : Am := [(.exit 0, [(.obj 0, .own 55 U6)]), (.ret, [(.obj 0, .own 55 U6)])]
def ANS [Lk] : U7 → Option (U7 ⊕ Uj ⊕ Uj ⊕ Unit) := LB (([] : List (Int)) : U4) BB
def AWX [Lk] : U7 → Option (Uj) := Xh (([] : List (Int)) : U4) BB
def Ack [Lk] (v : U7) : Option (Uj) := ANV (([] : List (Int)) : U4) BB v
theorem Acj v : Ack v = AWX v := AK _
abbrev AKZ : AE := [(.tmp 0, .own 55 U6), (.tmp 1, .di), (.tmp 2, .di), (.tmp 3, .clo 204 [])]
abbrev AKY : AE := [(.obj 0, .own 55 U6)]
abbrev AKX : List RS := []
abbrev APi : AE := [(.obj 0, .own 55 U6), (.tmp 0, .own' 0), (.tmp 3, .clo 204 []), (.tmp 8, .di), (.tmp 9, .di), (.tmp 12, .di)]
abbrev APg : Am := [(.exit 2, [(.obj 0, .own 55 U6)])]
def APd [Lk] : U7 → Option (U7 ⊕ Uj ⊕ Unit) := Lh (([] : List (Int)) : U4) BB
abbrev APj : AE := [(.obj 0, .own 55 U6), (.tmp 0, .own' 0), (.tmp 3, .clo 204 []), (.tmp 8, .di), (.tmp 9, .di), (.tmp 10, .di), (.tmp 11, .di)]
abbrev APh : Am := [(.exit 0, [(.obj 0, .own 55 U6), (.tmp 0, .own' 0), (.tmp 3, .clo 204 []), (.tmp 8, .di), (.tmp 9, .di), (.tmp 10, .di)])]
def APf [Lk] : Uh → Option (Uh ⊕ U7 ⊕ Unit) := Li (([] : List (Int)) : U4) BB
def AXJ [Lk] : Ue → Option (Uj) := Xu (([] : List (Int)) : U4) BB
def Aec [Lk] (v : Ue) : Option (Uj) := AXK (([] : List (Int)) : U4) BB v
theorem Aeb v : Aec v = AXJ v := AK _
abbrev ADK : AE := [(.tmp 0, .own 55 U6), (.tmp 1, .di), (.tmp 2, .di), (.tmp 3, .clo 204 [])]
abbrev ADJ : AE := [(.obj 0, .own 55 U6)]
abbrev ADI : List RS := []
abbrev AG7 : AE := [(.obj 0, .own 55 U6), (.tmp 0, .own' 0), (.tmp 1, .di), (.tmp 8, .di), (.tmp 9, .box 1), (.cell 1 0, .dat (.int .u64)), (.tmp 10, .dat (.int .u64)), (.tmp 11, .di)]
abbrev AG6 : Am := [(.exit 0, [(.obj 0, .own 55 U6)])]
def AG5 [Lk] : Uu → Option (Uu ⊕ Uj ⊕ Unit) := Gu (([] : List (Int)) : U4) BB
def AQj [Lk] : Ue → Option (Uj) := RX (([] : List (Int)) : U4) BB
def AVm [Lk] (v : Ue) : Option (Uj) := ALa (([] : List (Int)) : U4) BB v
theorem AbJ v : AVm v = AQj v := AK _
abbrev TY : AE := [(.tmp 0, .own 55 U6), (.tmp 1, .di), (.tmp 2, .di), (.tmp 3, .box 1), (.cell 1 0, .di), (.tmp 4, .clo 204 [])]
abbrev TX : AE := [(.obj 0, .own 55 U6), (.obj 1, .box 1), (.cell 1 0, .di), (.tmp 0, .di), (.tmp 1, .di)]
abbrev TW : List RS := [.one, .one]
def AGI [Lk] : U7 → Option (U7) := Mz (([] : List (Int)) : U4) BB
def AJo [Lk] (v : U7) : Option (U7) := M0 (([] : List (Int)) : U4) BB v
theorem ATZ v : AJo v = AGI v := AK _
abbrev Tf : AE := [(.tmp 0, .own 55 U6), (.tmp 1, .di), (.tmp 2, .di), (.tmp 3, .di), (.tmp 4, .box 1), (.cell 1 0, .di), (.tmp 5, .clo 204 [])]
abbrev Te : AE := [(.obj 0, .own 55 U6), (.obj 1, .box 1), (.cell 1 0, .di), (.tmp 0, .di)]
abbrev Td : List RS := [.one]
def AGL [Lk] : Uh → Option (Ue) := M5 (([] : List (Int)) : U4) BB
def AKA [Lk] (v : Uh) : Option (Ue) := M6 (([] : List (Int)) : U4) BB v
theorem ATw v : AKA v = AGL v := AK _
abbrev Ti : AE := [(.tmp 0, .own 55 U6), (.tmp 1, .di), (.tmp 2, .box 1), (.cell 1 0, .di), (.tmp 3, .clo 204 [])]
abbrev Th : AE := [(.obj 0, .own 55 U6), (.obj 1, .box 1), (.cell 1 0, .di), (.tmp 0, .di)]
abbrev Tg : List RS := [.one]
def AGM [Lk] : Ue → Option (Ue) := M7 (([] : List (Int)) : U4) BB
def AKC [Lk] (v : Ue) : Option (Ue) := M8 (([] : List (Int)) : U4) BB v
theorem ATy v : AKC v = AGM v := AK _
abbrev AA4 : AE := [(.tmp 0, .own 55 U6), (.tmp 1, .di), (.tmp 2, .di), (.tmp 3, .clo 204 [])]
abbrev AA3 : AE := [(.obj 0, .own 55 U6), (.tmp 0, .di), (.tmp 1, .di)]
abbrev AA2 : List RS := [.one, .one]
def AOD [Lk] : Ue → Option (Ue) := QU (([] : List (Int)) : U4) BB
def ATG [Lk] (v : Ue) : Option (Ue) := AJZ (([] : List (Int)) : U4) BB v
theorem AZN v : ATG v = AOD v := AK _
abbrev ASn : AE := [(.tmp 0, .own 55 U6), (.tmp 1, .di), (.tmp 2, .di), (.tmp 3, .clo 204 [])]
abbrev ASm : AE := [(.obj 0, .own 55 U6)]
abbrev ASl : List RS := []
abbrev AWe : AE := [(.obj 0, .own 55 U6), (.tmp 0, .own' 0), (.tmp 8, .di), (.tmp 9, .di)]
abbrev AWd : Am := [(.exit 0, [(.obj 0, .own 55 U6)])]
def AWc [Lk] : Ue → Option (Ue ⊕ Uj ⊕ Unit) := Xj (([] : List (Int)) : U4) BB
def Ac2 [Lk] : Ue → Option (Uj) := AJD (([] : List (Int)) : U4) BB
def Ahx [Lk] (v : Ue) : Option (Uj) := AgT (([] : List (Int)) : U4) BB v
theorem AgR v : Ahx v = Ac2 v := AK _
abbrev Og : AE := [(.tmp 0, .own 55 U6), (.tmp 1, .di), (.tmp 2, .di), (.tmp 3, .clo 204 [])]
abbrev Of : AE := [(.obj 0, .own 55 U6), (.tmp 0, .dat .bool)]
abbrev Oe : List RS := [.one]
abbrev WL : AE := [(.obj 0, .own 55 U6), (.tmp 0, .own' 0), (.tmp 1, .di), (.tmp 2, .di), (.tmp 3, .clo 204 []), (.tmp 9, .di), (.tmp 10, .di), (.tmp 12, .di)]
abbrev WH : Am := [(.exit 6, [(.obj 0, .own 55 U6), (.tmp 0, .own' 0), (.tmp 1, .di), (.tmp 2, .di), (.tmp 3, .clo 204 []), (.tmp 9, .di), (.tmp 10, .di)])]
def WC [Lk] : Uu → Option (Uu ⊕ Uh ⊕ Unit) := Fm (([] : List (Int)) : U4) BB
abbrev WM : AE := [(.obj 0, .own 55 U6), (.tmp 0, .own' 0), (.tmp 1, .di), (.tmp 2, .di), (.tmp 3, .clo 204 []), (.tmp 9, .di), (.tmp 10, .di), (.tmp 11, .di)]
abbrev WI : Am := [(.exit 4, [(.obj 0, .own 55 U6), (.tmp 0, .own' 0), (.tmp 1, .di), (.tmp 2, .di), (.tmp 3, .clo 204 []), (.tmp 9, .di), (.tmp 10, .di)])]
def WD [Lk] : Uu → Option (Uu ⊕ Uh ⊕ Unit) := Fp (([] : List (Int)) : U4) BB
abbrev WN : AE := [(.obj 0, .own 55 U6), (.tmp 0, .own' 0), (.tmp 1, .di), (.tmp 2, .di), (.tmp 3, .clo 204 []), (.tmp 9, .di), (.tmp 10, .di)]
abbrev WJ : Am := [(.exit 2, [(.obj 0, .own 55 U6), (.tmp 0, .own' 0), (.tmp 1, .di), (.tmp 2, .di), (.tmp 3, .clo 204 []), (.tmp 9, .di), (.tmp 10, .di)])]
def WE [Lk] : Uh → Option (Uh ⊕ Uh ⊕ Unit) := Hw (([] : List (Int)) : U4) BB
abbrev WO : AE := [(.obj 0, .own 55 U6), (.tmp 0, .own' 0), (.tmp 1, .di), (.tmp 2, .di), (.tmp 3, .clo 204 []), (.tmp 9, .di), (.tmp 10, .di)]
abbrev WK : Am := [(.ret, [(.obj 0, .own 55 U6), (.tmp 8, .dat .bool)]), (.exit 0, [(.obj 0, .own 55 U6)])]
def WG [Lk] : Uh → Option (Uh ⊕ (List U4 × Bool × Unit) ⊕ Uj ⊕ Unit) := CL (([] : List (Int)) : U4) BB
def ABD [Lk] : Ue → Option ((List U4 × Bool × Unit)) := Jq (([] : List (Int)) : U4) BB
def ABE [Lk] (v : Ue) : Option ((List U4 × Bool × Unit)) := QX (([] : List (Int)) : U4) BB v
theorem AOk v : ABE v = ABD v := AK _
abbrev TV : AE := [(.tmp 0, .own 55 U6), (.tmp 1, .di), (.tmp 2, .di), (.tmp 3, .di), (.tmp 4, .clo 204 [])]
abbrev TU : AE := [(.obj 0, .own 55 U6), (.tmp 0, .di)]
abbrev TT : List RS := [.one]
abbrev ABL : AE := [(.obj 0, .own 55 U6), (.tmp 0, .own' 0), (.tmp 1, .di), (.tmp 4, .clo 204 []), (.tmp 11, .di), (.tmp 12, .di)]
abbrev ABI : Am := [(.exit 4, [(.obj 0, .own 55 U6), (.tmp 0, .own' 0), (.tmp 1, .di), (.tmp 4, .clo 204 []), (.tmp 11, .di), (.tmp 12, .di)])]
def ABF [Lk] : U7 → Option Ve := Jr (([] : List (Int)) : U4) BB
abbrev ABM : AE := [(.obj 0, .own 55 U6), (.tmp 0, .own' 0), (.tmp 1, .di), (.tmp 4, .clo 204 []), (.tmp 11, .di), (.tmp 12, .di)]
abbrev ABJ : Am := [(.exit 2, [(.obj 0, .own 55 U6), (.tmp 0, .own' 0), (.tmp 1, .di), (.tmp 4, .clo 204 []), (.tmp 11, .di), (.tmp 12, .di)])]
def ABG [Lk] : U7 → Option Ve := Js (([] : List (Int)) : U4) BB
abbrev ABN : AE := [(.obj 0, .own 55 U6), (.tmp 0, .own' 0), (.tmp 1, .di), (.tmp 4, .clo 204 []), (.tmp 11, .di), (.tmp 12, .di)]
abbrev ABK : Am := [(.exit 0, [(.obj 0, .own 55 U6), (.tmp 11, .di)])]
def ABH [Lk] : U7 → Option (U7 ⊕ V9 ⊕ Unit) := Jt (([] : List (Int)) : U4) BB
def AGG [Lk] : U7 → Option (V9) := Mx (([] : List (Int)) : U4) BB
def AJl [Lk] (v : U7) : Option (V9) := Xo (([] : List (Int)) : U4) BB v
theorem ATX v : AJl v = AGG v := AK _
end
end Go.Pev
end
section
namespace Go.Pev
set_option maxRecDepth 100000
noncomputable section
attribute [local irreducible] Nx J8 Oz Nn AeU AeV AeW QR AAe Zu Zt L0 AW many IntKind.wrap AO Ap AS Aq DG DU JK AJ CZ CF imax Ad Al
abbrev AJh : AE := [(.tmp 0, .own 55 U6), (.tmp 1, .di), (.tmp 2, .di), (.tmp 3, .di), (.tmp 4, .clo 204 [])]
abbrev AJg : AE := [(.obj 0, .own 55 U6), (.tmp 0, .di), (.tmp 1, .dat .bool)]
abbrev AJf : List RS := [.one, .one]
abbrev AOX : AE := [(.obj 0, .own 55 U6), (.tmp 0, .own' 0), (.tmp 1, .di), (.tmp 4, .clo 204 []), (.tmp 12, .di), (.tmp 13, .di)]
abbrev AOS : Am := [(.exit 8, [(.obj 0, .own 55 U6), (.tmp 0, .own' 0), (.tmp 1, .di), (.tmp 4, .clo 204 []), (.tmp 12, .di), (.tmp 13, .di)])]
def AOJ [Lk] : U7 → Option Ve := QY (([] : List (Int)) : U4) BB
abbrev AOY : AE := [(.obj 0, .own 55 U6), (.tmp 0, .own' 0), (.tmp 1, .di), (.tmp 4, .clo 204 []), (.tmp 12, .di), (.tmp 13, .di)]
abbrev AOT : Am := [(.exit 6, [(.obj 0, .own 55 U6), (.tmp 0, .own' 0), (.tmp 1, .di), (.tmp 4, .clo 204 []), (.tmp 12, .di), (.tmp 13, .di)])]
def AOL [Lk] : U7 → Option Ve := QZ (([] : List (Int)) : U4) BB
abbrev AOZ : AE := [(.obj 0, .own 55 U6), (.tmp 0, .own' 0), (.tmp 1, .di), (.tmp 4, .clo 204 []), (.tmp 12, .di), (.tmp 13, .di)]
abbrev AOU : Am := [(.exit 4, [(.obj 0, .own 55 U6), (.tmp 0, .own' 0), (.tmp 1, .di), (.tmp 13, .di)])]
def AON [Lk] : U7 → Option (U7 ⊕ Ue ⊕ Unit) := Qa (([] : List (Int)) : U4) BB
abbrev AOa : AE := [(.obj 0, .own 55 U6), (.tmp 0, .own' 0), (.tmp 1, .di), (.tmp 4, .clo 204 []), (.tmp 12, .di), (.tmp 13, .di)]
abbrev AOV : Am := [(.exit 2, [(.obj 0, .own 55 U6), (.tmp 0, .own' 0), (.tmp 1, .di), (.tmp 4, .clo 204 []), (.tmp 12, .di), (.tmp 13, .di)])]
def AOP [Lk] : U7 → Option Ve := Qb (([] : List (Int)) : U4) BB
abbrev AOb : AE := [(.obj 0, .own 55 U6), (.tmp 0, .own' 0), (.tmp 1, .di), (.tmp 4, .clo 204 []), (.tmp 12, .di), (.tmp 13, .di)]
abbrev AOW : Am := [(.exit 0, [(.obj 0, .own 55 U6), (.tmp 0, .own' 0), (.tmp 1, .di), (.tmp 4, .clo 204 []), (.tmp 12, .di), (.tmp 13, .di)])]
def AOR [Lk] : U7 → Option Ve := Qc (([] : List (Int)) : U4) BB
def AWm [Lk] : U7 → Option ((List U4 × Int × Bool × Unit)) := Xn (([] : List (Int)) : U4) BB
def AdU [Lk] (v : U7) : Option ((List U4 × Int × Bool × Unit)) := AGF (([] : List (Int)) : U4) BB v
theorem AdT v : AdU v = AWm v := AK _
abbrev AA7 : AE := [(.tmp 0, .own 55 U6), (.tmp 1, .di), (.tmp 2, .di), (.tmp 3, .di), (.tmp 4, .clo 204 [])]
abbrev AA6 : AE := [(.obj 0, .own 55 U6)]
abbrev AA5 : List RS := []
abbrev AWl : AE := [(.obj 0, .own 55 U6), (.tmp 0, .own' 0), (.tmp 1, .di), (.tmp 2, .di), (.tmp 3, .di), (.tmp 4, .clo 204 []), (.tmp 10, .dat .bool), (.tmp 11, .dat .bool)]
abbrev AWk : Am := [(.ret, [(.obj 0, .own 55 U6)])]
def AWj [Lk] (self : U7 → Option (Uj)) : (List U4 × Int × Int × Int × Bool × Bool × Unit) → Option ((List U4 × Int × Int × Int × Bool × Bool × Unit) ⊕ Uj ⊕ Unit) := QW (([] : List (Int)) : U4) BB self
def Ah1 [Lk] (self : U7 → Option (Uj)) : U7 → Option (Uj) := AJe (([] : List (Int)) : U4) BB self
def AA8 [Lk] : Nat → U7 → Option (Uj) := LM (([] : List (Int)) : U4) BB
def AgZ [Lk] (v : U7) : Option (Uj) := Agb (([] : List (Int)) : U4) BB v
theorem AgY v : AgZ v = AA8 100 v := AK _
abbrev AIS : AE := [(.tmp 0, .own 55 U6), (.tmp 1, .clo 204 [])]
abbrev AIR : AE := [(.obj 0, .own 55 U6)]
abbrev AIQ : List RS := []
def AWW [Lk] : Uj → Option (Uj) := Xf (([] : List (Int)) : U4) BB
def AM8 [Lk] (v : Uj) : Option (Uj) := AcR (([] : List (Int)) : U4) BB v
theorem AcP v : AM8 v = AWW v := AK _
abbrev AHa : AE := [(.tmp 0, .dat U9), (.tmp 1, .dat U6), (.tmp 2, .dat Ui)]
abbrev AHZ : AE := [(.tmp 0, .di), (.tmp 1, .own 55 U6)]
abbrev AHY : List RS := [.agg 2]
abbrev AMR : AE := [(.tmp 3, .box 2), (.cell 0 0, .di), (.cell 0 1, .dat Ui), (.tmp 6, .box 2), (.cell 1 0, .di), (.cell 1 1, .nil U6), (.tmp 7, .own 55 U6), (.tmp 29, .dat Ui), (.tmp 30, .di), (.tmp 31, .di)]
abbrev AMP : Am := [(.exit 2, [(.tmp 3, .box 2), (.cell 0 0, .di), (.cell 0 1, .dat Ui), (.tmp 6, .box 2), (.cell 1 0, .di), (.cell 1 1, .nil U6), (.tmp 7, .own 55 U6)])]
def Gz [Lk] : (Int × List U4 × Int × List U4 × List U4 × Int × Int × Unit) → Option ((Int × List U4 × Int × List U4 × List U4 × Int × Int × Unit) ⊕ (Int × List U4 × Int × List U4 × Unit) ⊕ Unit) := fun (a0, a1, a2, a3, a4, a5, a6, _) =>
 match (ilt a6 a5) with
 | true => match idx a4 a6 with
  | none => none
  | some x0 => match AAN (x0, ()) with
  | none => none
  | some (y1, _) => match (fits ((AO a3) + (AO ([y1] : List U4)))) with
  | true => some (.inl (a0, a1, a2, (Aq a3 ([y1] : List U4)), a4, a5, (IntKind.wrap .i64 (a6 + 1)), ()))
  | false => none
 | false => some (.inr (.inl (a0, a1, a2, a3, ())))
abbrev AMS : AE := [(.tmp 1, .dat U6), (.tmp 2, .dat Ui), (.tmp 3, .box 2), (.cell 0 0, .di), (.cell 0 1, .dat Ui), (.tmp 6, .box 2), (.cell 1 0, .di), (.cell 1 1, .nil U6), (.tmp 7, .own 55 U6), (.tmp 13, .dat Ui), (.tmp 14, .di), (.tmp 15, .di)]
abbrev AMQ : Am := [(.exit 0, [(.tmp 2, .dat Ui), (.tmp 3, .box 2), (.cell 0 0, .di), (.cell 0 1, .dat Ui), (.tmp 6, .box 2), (.cell 1 0, .di), (.cell 1 1, .nil U6), (.tmp 7, .own 55 U6)])]
def G0 [Lk] : Vf → Option (Vf ⊕ (List U4 × Int × List U4 × Int × List U4 × Unit) ⊕ Unit) := fun (a0, a1, a2, a3, a4, a5, a6, a7, a8, _) =>
 match (ilt a8 a7) with
 | true => match idx a6 a8 with
  | none => none
  | some x0 => match FM (a0, a8, ()) with
  | none => none
  | some (y1, _) => match (!y1) with
  | true => match (fits ((AO a5) + (AO ([x0] : List U4)))) with
   | true => some (.inl (a0, a1, a2, a3, a4, (Aq a5 ([x0] : List U4)), a6, a7, (IntKind.wrap .i64 (a8 + 1)), ()))
   | false => none
  | false => some (.inl (a0, a1, a2, a3, a4, a5, a6, a7, (IntKind.wrap .i64 (a8 + 1)), ()))
 | false => some (.inr (.inl (a1, a2, a3, a4, a5, ())))
def Xa [Lk] : (Ub × List Int × List U4 × Unit) → Option ((Int × List U4 × Unit)) := fun (a0, a1, a2, _) =>
 match AT G0 many (a1, a2, a0.1, a0.2.1, 0, ([] : List U4), a0.2.1, (AO a0.2.1), 0, ()) with
 | none => none
 | some r => match r with
 | .inl (o0, o1, o2, o3, o4, _) => match AT Gz many (o1, o2, o3, o4, o0, (AO o0), 0, ()) with
  | none => none
  | some r => match r with
  | .inl (o5, o6, o7, o8, _) => match AM8 (o8, ()) with
   | none => none
   | some (y9, _) => some (o5, y9, ())
  | .inr _ => none
 | .inr _ => none
def AMU [Lk] := fun v => Lk.f (Xa v)
theorem AMT v : AMU v = Xa v := AK _
abbrev AH0 : AE := [(.tmp 0, .dat U9), (.tmp 1, .di), (.tmp 2, .di)]
abbrev AHz : AE := [(.tmp 0, .di), (.tmp 1, .dat Ui), (.tmp 2, .di)]
abbrev AHy : List RS := [.agg 2, .one]
def GS [Lk] : (Ub × Int × Int × Unit) → Option (V1) := fun (a0, a1, a2, _) =>
 match asked ((a0.1, (a0.2.1, ())), a1, a2, ()) with
 | none => none
 | some (y0, _) => match (!(ieq y0 0)) with
 | true => some (a0.1, a0.2.1, y0, ())
 | false => match OB ((a0.1, (a0.2.1, ())), a1, ()) with
 | none => none
 | some (y1, _) => match OB ((a0.1, (a0.2.1, ())), a2, ()) with
 | none => none
 | some (y2, _) => match (ieq y1 y2) with
 | true => some (a0.1, a0.2.1, 5, ())
 | false => match idx a0.2.1 y1 with
 | none => none
 | some x3 => match AF7 (x3, a1, ()) with
 | none => none
 | some (y4, y5, _) => match idx a0.2.1 y2 with
 | none => none
 | some x6 => match AF7 (x6, a2, ()) with
 | none => none
 | some (y7, y8, _) => match CM y4 0 1 with
 | none => none
 | some x9 => match AYH (a0.1, a1, a2, ()) with
 | none => none
 | some (y10, _) => match AYH (a0.1, a2, a1, ()) with
 | none => none
 | some (y11, _) => match CM y4 1 (AO y4) with
 | none => none
 | some x12 => match IG (([(DU 0 (AJ (AO x9)) y4), ([y10] : List (Int)), y7, ([y11] : List (Int)), (DU 1 (AJ (AO x12)) y4)] : List U4), ()) with
 | none => none
 | some (y13, _) => match AMU ((a0.1, (a0.2.1, ())), ([y1, y2] : List (Int)), ([y13] : List U4), ()) with
 | none => none
 | some (y14, y15, _) => some (y14, y15, 0, ())
def Kf [Lk] := fun v => Lk.f (GS v)
theorem G7 v : Kf v = GS v := AK _
abbrev FF : AE := [(.tmp 0, .dat U6), (.cap 1 0, .box 2), (.cell 0 0, .di), (.cell 0 1, .dat Ui), (.tmp 1, .clo 155 [(0, 0)])]
abbrev FE : AE := [(.obj 0, .box 2), (.cell 0 0, .di), (.cell 0 1, .dat Ui), (.tmp 0, .di)]
abbrev FD : List RS := [.one]
abbrev H7 : AE := [(.obj 0, .box 2), (.cell 0 0, .di), (.cell 0 1, .dat Ui), (.tmp 0, .dat U6), (.tmp 1, .clo 155 [(0, 0)]), (.tmp 7, .di), (.tmp 8, .di)]
abbrev H6 : Am := [(.ret, [(.obj 0, .box 2), (.cell 0 0, .di), (.cell 0 1, .dat Ui), (.tmp 4, .di)]), (.exit 0, [(.obj 0, .box 2), (.cell 0 0, .di), (.cell 0 1, .dat Ui)])]
def Ba [Lk] : (Int × List U4 × List Int × Int × Int × Unit) → Option ((Int × List U4 × List Int × Int × Int × Unit) ⊕ V1 ⊕ (Int × List U4 × Unit) ⊕ Unit) := fun (a0, a1, a2, a3, a4, _) =>
 match (ilt a4 a3) with
 | true => match idx a2 a4 with
  | none => none
  | some x0 => match (ilt x0 0) with
  | true => some (.inr (.inl (a0, a1, a4, ())))
  | false => match (ile a0 x0) with
  | true => some (.inr (.inl (a0, a1, a4, ())))
  | false => some (.inl (a0, a1, a2, a3, (IntKind.wrap .i64 (a4 + 1)), ()))
 | false => some (.inr (.inr (.inl (a0, a1, ()))))
def DT [Lk] : (List Int × Int × List U4 × Unit) → Option (V1) := fun (a0, a1, a2, _) =>
 match AT Ba many (a1, a2, a0, (AO a0), 0, ()) with
 | none => none
 | some r => match r with
 | .inl (o0, o1, o2, _) => some (o0, o1, o2, ())
 | .inr r => match r with
 | .inl (o3, o4, _) => some (o3, o4, (-1 : Int), ())
 | .inr _ => none
def EZ [Lk] := fun v => Lk.f (DT v)
theorem H8 v : EZ v = DT v := AK _
abbrev Ef : AE := [(.tmp 0, .dat U6), (.cap 1 0, .box 2), (.cell 0 0, .di), (.cell 0 1, .dat Ui), (.tmp 1, .clo 155 [(0, 0)])]
abbrev Ee : AE := [(.obj 0, .box 2), (.cell 0 0, .di), (.cell 0 1, .dat Ui), (.tmp 0, .dat .bool)]
abbrev Ed : List RS := [.one]
def Cs [Lk] : (List Int × Int × List U4 × Unit) → Option ((Int × List U4 × Bool × Unit)) := fun (a0, a1, a2, _) =>
 match EZ (a0, a1, a2, ()) with
 | none => none
 | some (y0, y1, y2, _) => some (y0, y1, (ile 0 y2), ())
def Ce [Lk] := fun v => Lk.f (Cs v)
theorem HX v : Ce v = Cs v := AK _
abbrev ACa : AE := [(.tmp 0, .dat U9), (.tmp 1, .dat U6)]
abbrev ACZ : AE := [(.tmp 0, .di)]
abbrev ACY : List RS := [.one]
def Q4 [Lk] : (Ub × List Int × Unit) → Option (U8) := fun (a0, a1, _) =>
 match N9 ((a0.1, (a0.2.1, ())), ()) with
 | none => none
 | some (y0, _) => match (!y0) with
 | true => some (1, ())
 | false => match Ce (a1, a0.1, a0.2.1, ()) with
 | none => none
 | some (y1, y2, y3, _) => match y3 with
 | true => some (10, ())
 | false => some (0, ())
def Ij [Lk] := fun v => Lk.f (Q4 v)
theorem AGp v : Ij v = Q4 v := AK _
abbrev AVD : AE := [(.tmp 0, .dat Ul)]
abbrev AVC : AE := [(.tmp 0, .own 3 U2)]
abbrev AVB : List RS := [.one]
abbrev AXU : AE := [(.tmp 3, .own 3 U2), (.tmp 6, .dat Ul), (.tmp 7, .di), (.tmp 8, .di)]
abbrev AXT : Am := [(.exit 0, [(.tmp 3, .own 3 U2)])]
def J9 [Lk] : (List Int × List U3 × Int × Int × Unit) → Option ((List Int × List U3 × Int × Int × Unit) ⊕ Um ⊕ Unit) := fun (a0, a1, a2, a3, _) =>
 match (ilt a3 a2) with
 | true => match idx a1 a3 with
  | none => none
  | some x0 => match (fits ((AO a0) + (AO ([x0.1, x0.2.1] : List (Int))))) with
  | true => some (.inl ((Aq a0 ([x0.1, x0.2.1] : List (Int))), a1, a2, (IntKind.wrap .i64 (a3 + 1)), ()))
  | false => none
 | false => some (.inr (.inl (a0, ())))
def AK6 [Lk] : Uz → Option (Um) := fun (a0, _) =>
 match AT J9 many (([] : List (Int)), a0, (AO a0), 0, ()) with
 | none => none
 | some r => match r with
 | .inl (o0, _) => some (o0, ())
 | .inr _ => none
def ends [Lk] := fun v => Lk.f (AK6 v)
theorem AXV v : ends v = AK6 v := AK _
abbrev PC : AE := [(.tmp 0, .dat U9), (.tmp 1, .dat Ul), (.tmp 2, .clo 161 [])]
abbrev PB : AE := [(.tmp 0, .dat U9), (.tmp 1, .own 4 .bool), (.tmp 2, .di)]
abbrev PA : List RS := [.one, .one, .one]
abbrev Wd : AE := [(.tmp 2, .clo 161 []), (.tmp 3, .box 2), (.cell 0 0, .di), (.cell 0 1, .dat Ui), (.tmp 6, .box 2), (.cell 1 0, .di), (.cell 1 1, .nil U6), (.tmp 10, .own 4 .bool), (.tmp 23, .dat Ul), (.tmp 24, .di), (.tmp 25, .di)]
abbrev Wc : Am := [(.exit 0, [(.tmp 3, .box 2), (.cell 0 0, .di), (.cell 0 1, .dat Ui), (.tmp 6, .box 2), (.cell 1 0, .di), (.cell 1 1, .nil U6), (.tmp 10, .own 4 .bool)])]
def DE [Lk] : (Int × List U4 × Int × List Bool × List U3 × Int × Int × Unit) → Option ((Int × List U4 × Int × List Bool × List U3 × Int × Int × Unit) ⊕ (Int × List U4 × Int × List Bool × Unit) ⊕ Unit) := fun (a0, a1, a2, a3, a4, a5, a6, _) =>
 match (ilt a6 a5) with
 | true => match idx a4 a6 with
  | none => none
  | some x0 => match Kf ((a0, (a1, ())), x0.1, x0.2.1, ()) with
  | none => none
  | some (y1, y2, y3, _) => match (fits ((AO a3) + (AO ([(ieq y3 0)] : List (Bool))))) with
  | true => some (.inl (y1, y2, a2, (Aq a3 ([(ieq y3 0)] : List (Bool))), a4, a5, (IntKind.wrap .i64 (a6 + 1)), ()))
  | false => none
 | false => some (.inr (.inl (a0, a1, a2, a3, ())))
def KC [Lk] : Vh → Option ((Ub × List Bool × Int × Unit)) := fun (a0, a1, _) =>
 match ends (a1, ()) with
 | none => none
 | some (y0, _) => match Ij ((a0.1, (a0.2.1, ())), y0, ()) with
 | none => none
 | some (y1, _) => match (!(ieq y1 0)) with
 | true => some ((a0.1, (a0.2.1, ())), ([] : List (Bool)), y1, ())
 | false => match AT DE many (a0.1, a0.2.1, 0, ([] : List (Bool)), a1, (AO a1), 0, ()) with
 | none => none
 | some r => match r with
 | .inl (o2, o3, o4, o5, _) => some ((o2, (o3, ())), o5, 0, ())
 | .inr _ => none
def RE [Lk] := fun v => Lk.f (KC v)
theorem We v : RE v = KC v := AK _
abbrev ACg : AE := [(.tmp 0, .dat U9), (.tmp 1, .dat Ul)]
abbrev ACf : AE := [(.tmp 0, .dat U9), (.tmp 1, .own 4 .bool), (.tmp 2, .di)]
abbrev ACe : List RS := [.one, .one, .one]
def Q6 [Lk] : Vh → Option ((Ub × List Bool × Int × Unit)) := fun (a0, a1, _) =>
 match RE ((a0.1, (a0.2.1, ())), a1, ()) with
 | none => none
 | some (y0, y1, y2, _) => some ((y0.1, (y0.2.1, ())), y1, y2, ())
def AKx [Lk] := fun v => Lk.f (Q6 v)
theorem AGs v : AKx v = Q6 v := AK _
abbrev Aez : AE := [(.tmp 0, .di), (.tmp 1, .dat Ul)]
abbrev Aey : AE := [(.tmp 0, .dat U9), (.tmp 1, .di)]
abbrev Aex : List RS := [.one, .one]
def AXS [Lk] : V3 → Option (V8) := fun (a0, a1, _) =>
 match AMo (a0, ()) with
 | none => none
 | some (y0, y1, y2, _) => match (!(ieq y2 0)) with
 | true => some ((0, (([] : List U4), ())), y2, ())
 | false => match AKx ((y0, (y1, ())), a1, ()) with
 | none => none
 | some (y3, y4, y5, _) => match (!(ieq y5 0)) with
 | true => some ((0, (([] : List U4), ())), y5, ())
 | false => some ((y3.1, (y3.2.1, ())), 0, ())
def fof [Lk] := fun v => Lk.f (AXS v)
theorem Ae0 v : fof v = AXS v := AK _
abbrev Adf : AE := [(.tmp 0, .dat U6)]
abbrev Adc : AE := [(.tmp 0, .di)]
abbrev Ada : List RS := [.one]
abbrev Ade : AE := [(.tmp 3, .di), (.tmp 6, .dat U6), (.tmp 7, .di), (.tmp 8, .di)]
abbrev Adb : Am := [(.ret, [(.tmp 2, .di)]), (.exit 0, [(.tmp 3, .di)])]
def Oh [Lk] : (Int × List Int × Int × Int × Unit) → Option ((Int × List Int × Int × Int × Unit) ⊕ U8 ⊕ U8 ⊕ Unit) := fun (a0, a1, a2, a3, _) =>
 match (ilt a3 a2) with
 | true => match idx a1 a3 with
  | none => none
  | some x0 => match (!(ieq x0 a0)) with
  | true => some (.inr (.inl (x0, ())))
  | false => some (.inl (a0, a1, a2, (IntKind.wrap .i64 (a3 + 1)), ()))
 | false => some (.inr (.inr (.inl (a0, ()))))
def AWn [Lk] : Um → Option (U8) := fun (a0, _) =>
 match AT Oh many (0, a0, (AO a0), 0, ()) with
 | none => none
 | some r => match r with
 | .inl (o0, _) => some (o0, ())
 | .inr r => match r with
 | .inl (o1, _) => some (o1, ())
 | .inr _ => none
def orI [Lk] := fun v => Lk.f (AWn v)
theorem Adh v : orI v = AWn v := AK _
abbrev ABj : AE := [(.tmp 0, .di)]
abbrev ABi : AE := [(.tmp 0, .dat .bool)]
abbrev ABh : List RS := [.one]
def LY [Lk] : U8 → Option (Uf) := fun (a0, _) =>
 match (ile 1 a0) with
 | true => some ((ile a0 64), ())
 | false => some (false, ())
def Tm [Lk] := fun v => Lk.f (LY v)
theorem Tl v : Tm v = LY v := AK _
abbrev AT6 : AE := [(.tmp 0, .di)]
abbrev AT5 : AE := [(.tmp 0, .di)]
abbrev AT4 : List RS := [.one]
def AT7 [Lk] : U8 → Option (U8) := fun (a0, _) =>
 match Tm (a0, ()) with
 | none => none
 | some (y0, _) => match (!y0) with
 | true => some (0, ())
 | false => match bitsLen ((IntKind.wrap .u64 (IntKind.wrap .i64 (a0 - 1))), ()) with
 | none => none
 | some (y1, _) => some (y1, ())
def AEq [Lk] := fun v => Lk.f (AT7 v)
theorem Ago v : AEq v = AT7 v := AK _
abbrev Ot : AE := [(.tmp 0, .dat U0), (.tmp 1, .dat U0)]
abbrev Oq : AE := [(.tmp 0, .di)]
abbrev Oo : List RS := [.one]
def J6 [Lk] : (U1 × U1 × Unit) → Option (U8) := fun (a0, a1, _) =>
 match Fz (a0.1, a1.1, ()) with
 | none => none
 | some (y0, _) => match Fz (a0.2.1, a1.2.1, ()) with
 | none => none
 | some (y1, _) => match orI (([y0, y1] : List (Int)), ()) with
 | none => none
 | some (y2, _) => some (y2, ())
def JB [Lk] := fun v => Lk.f (J6 v)
theorem WU v : JB v = J6 v := AK _
abbrev ABf : AE := [(.tmp 0, .dat Ua), (.tmp 1, .di)]
abbrev ABe : AE := [(.tmp 0, .own 42 U5)]
abbrev ABd : List RS := [.one]
abbrev AGR : AE := [(.tmp 1, .di), (.tmp 5, .own 42 U5), (.tmp 9, .dat Un), (.tmp 10, .di), (.tmp 11, .di)]
abbrev AGQ : Am := [(.exit 0, [(.tmp 5, .own 42 U5)])]
def CD [Lk] : (Int × List U3 × List U1 × Int × Int × Unit) → Option ((Int × List U3 × List U1 × Int × Int × Unit) ⊕ Uz ⊕ Unit) := fun (a0, a1, a2, a3, a4, _) =>
 match (ilt a4 a3) with
 | true => match idx a2 a4 with
  | none => none
  | some x0 => match x0.2.2.2.1 with
  | true => match (ile a0 x0.2.2.1) with
   | true => match (fits ((AO a1) + (AO ([(x0.1, (x0.2.1, ()))] : List U3)))) with
    | true => some (.inl (a0, (Aq a1 ([(x0.1, (x0.2.1, ()))] : List U3)), a2, a3, (IntKind.wrap .i64 (a4 + 1)), ()))
    | false => none
   | false => some (.inl (a0, a1, a2, a3, (IntKind.wrap .i64 (a4 + 1)), ()))
  | false => some (.inl (a0, a1, a2, a3, (IntKind.wrap .i64 (a4 + 1)), ()))
 | false => some (.inr (.inl (a1, ())))
def LW [Lk] : (Uc × Int × Unit) → Option (Uz) := fun (a0, a1, _) =>
 match AT CD many (a1, ([] : List U3), a0.2.1, (AO a0.2.1), 0, ()) with
 | none => none
 | some r => match r with
 | .inl (o0, _) => some (o0, ())
 | .inr _ => none
def Ol [Lk] := fun v => Lk.f (LW v)
theorem Tk v : Ol v = LW v := AK _
abbrev ABm : AE := [(.tmp 0, .dat Ua)]
abbrev ABl : AE := [(.tmp 0, .dat .bool)]
abbrev ABk : List RS := [.one]
abbrev AGT : AE := [(.tmp 1, .box 2), (.cell 0 0, .di), (.cell 0 1, .dat Un), (.tmp 3, .di), (.tmp 23, .dat Un), (.tmp 24, .di), (.tmp 25, .di)]
abbrev AGS : Am := [(.ret, [(.tmp 2, .dat .bool)]), (.exit 0, [(.tmp 1, .box 2), (.cell 0 0, .di), (.cell 0 1, .dat Un)])]
def DQ [Lk] : (Int × List U1 × Int × List U1 × Int × Int × Unit) → Option ((Int × List U1 × Int × List U1 × Int × Int × Unit) ⊕ Uf ⊕ (Int × List U1 × Unit) ⊕ Unit) := fun (a0, a1, a2, a3, a4, a5, _) =>
 match (ilt a5 a4) with
 | true => match idx a3 a5 with
  | none => none
  | some x0 => match (ilt x0.1 0) with
  | true => some (.inr (.inl (false, ())))
  | false => match (ile x0.2.1 x0.1) with
  | true => some (.inr (.inl (false, ())))
  | false => match (ile a0 x0.2.1) with
  | true => some (.inr (.inl (false, ())))
  | false => match (ilt x0.2.2.1 0) with
  | true => some (.inr (.inl (false, ())))
  | false => match (ilt a2 x0.2.2.1) with
  | true => some (.inr (.inl (false, ())))
  | false => match (ilt 0 a5) with
  | true => match idx a1 (IntKind.wrap .i64 (a5 - 1)) with
   | none => none
   | some x1 => match JB ((x1.1, (x1.2.1, (x1.2.2.1, (x1.2.2.2.1, ())))), (x0.1, (x0.2.1, (x0.2.2.1, (x0.2.2.2.1, ())))), ()) with
   | none => none
   | some (y2, _) => match (ile 0 y2) with
   | true => some (.inr (.inl (false, ())))
   | false => some (.inl (a0, a1, a2, a3, a4, (IntKind.wrap .i64 (a5 + 1)), ()))
  | false => some (.inl (a0, a1, a2, a3, a4, (IntKind.wrap .i64 (a5 + 1)), ()))
 | false => some (.inr (.inr (.inl (a0, a1, ()))))
def HF [Lk] : V4 → Option (Uf) := fun (a0, _) =>
 match Tm (a0.1, ()) with
 | none => none
 | some (y0, _) => match (!y0) with
 | true => some (false, ())
 | false => match (ilt 400 (AO a0.2.1)) with
 | true => some (false, ())
 | false => match AEq (a0.1, ()) with
 | none => none
 | some (y1, _) => match AT DQ many (a0.1, a0.2.1, y1, a0.2.1, (AO a0.2.1), 0, ()) with
 | none => none
 | some r => match r with
 | .inl (o2, _) => some (o2, ())
 | .inr r => match r with
 | .inl (o3, o4, _) => match Ol ((o3, (o4, ())), 0, ()) with
  | none => none
  | some (y5, _) => match fof (o3, y5, ()) with
  | none => none
  | some (y6, y7, _) => match (ieq y7 0) with
  | true => some ((ieq (AO y6.2.1) (IntKind.wrap .i64 (o3 - (AO y5)))), ())
  | false => some (false, ())
 | .inr _ => none
def EV [Lk] := fun v => Lk.f (HF v)
theorem I7 v : EV v = HF v := AK _
abbrev AB0 : AE := [(.tmp 0, .dat Ua)]
abbrev ABz : AE := [(.tmp 0, .own 42 U5)]
abbrev ABy : List RS := [.one]
abbrev AGV : AE := [(.tmp 3, .own 42 U5), (.tmp 10, .dat Un), (.tmp 11, .di), (.tmp 12, .di)]
abbrev AGU : Am := [(.exit 0, [(.tmp 3, .own 42 U5)])]
def E4 [Lk] : (List U3 × List U1 × Int × Int × Unit) → Option ((List U3 × List U1 × Int × Int × Unit) ⊕ Uz ⊕ Unit) := fun (a0, a1, a2, a3, _) =>
 match (ilt a3 a2) with
 | true => match idx a1 a3 with
  | none => none
  | some x0 => match (fits ((AO a0) + (AO ([(x0.1, (x0.2.1, ()))] : List U3)))) with
  | true => some (.inl ((Aq a0 ([(x0.1, (x0.2.1, ()))] : List U3)), a1, a2, (IntKind.wrap .i64 (a3 + 1)), ()))
  | false => none
 | false => some (.inr (.inl (a0, ())))
def Qn [Lk] : V4 → Option (Uz) := fun (a0, _) =>
 match EV ((a0.1, (a0.2.1, ())), ()) with
 | none => none
 | some (y0, _) => match (!y0) with
 | true => some (([] : List U3), ())
 | false => match AT E4 many (([] : List U3), a0.2.1, (AO a0.2.1), 0, ()) with
 | none => none
 | some r => match r with
 | .inl (o1, _) => some (o1, ())
 | .inr _ => none
def AB2 [Lk] := fun v => Lk.f (Qn v)
theorem AGW v : AB2 v = Qn v := AK _
abbrev Z4 : AE := [(.tmp 0, .di), (.tmp 1, .dat Ul)]
abbrev Z3 : AE := [(.tmp 0, .di)]
abbrev Z2 : List RS := [.one]
abbrev AFw : AE := [(.tmp 0, .di), (.tmp 13, .dat Ul), (.tmp 14, .di), (.tmp 15, .di)]
abbrev AFv : Am := [(.ret, [(.tmp 4, .di)]), (.exit 0, [])]
def Es [Lk] : (Int × List U3 × Int × Int × Unit) → Option ((Int × List U3 × Int × Int × Unit) ⊕ U8 ⊕ (Unit) ⊕ Unit) := fun (a0, a1, a2, a3, _) =>
 match (ilt a3 a2) with
 | true => match idx a1 a3 with
  | none => none
  | some x0 => match (ilt (CF x0.1 x0.2.1) 0) with
  | true => some (.inr (.inl (10, ())))
  | false => match (ile a0 (imax x0.1 x0.2.1)) with
  | true => some (.inr (.inl (10, ())))
  | false => some (.inl (a0, a1, a2, (IntKind.wrap .i64 (a3 + 1)), ()))
 | false => some (.inr (.inr (.inl ())))
def QL [Lk] : V3 → Option (U8) := fun (a0, a1, _) =>
 match (ilt a0 1) with
 | true => some (1, ())
 | false => match (ilt 64 a0) with
 | true => some (1, ())
 | false => match AT Es many (a0, a1, (AO a1), 0, ()) with
 | none => none
 | some r => match r with
 | .inl (o0, _) => some (o0, ())
 | .inr r => match r with
 | .inl _ => some (0, ())
 | .inr _ => none
def Sx [Lk] := fun v => Lk.f (QL v)
theorem AFx v : Sx v = QL v := AK _
abbrev AAE : AE := [(.tmp 0, .di)]
abbrev AAD : AE := [(.tmp 0, .own 3 U2)]
abbrev AAC : List RS := [.one]
abbrev AF1 : AE := [(.tmp 3, .own 3 U2), (.tmp 8, .di), (.tmp 9, .di)]
abbrev AF0 : Am := [(.exit 0, [(.tmp 3, .own 3 U2)])]
def Et [Lk] : Uk → Option (Uk ⊕ Um ⊕ Unit) := fun (a0, a1, a2, _) =>
 match (ilt a2 a1) with
 | true => match idx a0 a2 with
  | none => none
  | some x0 => some (.inl ((Ap a0 (AJ a2) a2), a1, (IntKind.wrap .i64 (a2 + 1)), ()))
 | false => some (.inr (.inl (a0, ())))
def QM [Lk] : U8 → Option (Um) := fun (a0, _) =>
 match (JI a0 && JI a0 && ile a0 a0 && true) with
 | true => match AT Et many ((JK (AJ a0) (0 : Int)), (AO (JK (AJ a0) (0 : Int))), (0 : Int), ()) with
  | none => none
  | some r => match r with
  | .inl (o0, _) => some (o0, ())
  | .inr _ => none
 | false => none
def S0 [Lk] := fun v => Lk.f (QM v)
theorem AF2 v : S0 v = QM v := AK _
abbrev Zj : AE := [(.tmp 0, .own 3 U2), (.tmp 1, .di)]
abbrev Zi : AE := [(.obj 0, .own 3 U2), (.tmp 0, .di)]
abbrev Zh : List RS := [.one]
abbrev AFm : AE := [(.obj 0, .own 3 U2), (.tmp 0, .own' 0), (.tmp 1, .di)]
abbrev AFl : Am := [(.exit 0, [(.obj 0, .own 3 U2), (.tmp 1, .di)])]
def Iz [Lk] : Uo → Option (Uo ⊕ Uo ⊕ Unit) := fun (a0, a1, _) =>
 match idx a0 a1 with
 | none => none
 | some x0 => match (!(ieq (AS a0 (AJ a1) 0) a1)) with
 | true => match idx a0 a1 with
  | none => none
  | some x1 => match idx a0 (AS a0 (AJ a1) 0) with
  | none => none
  | some x2 => match idx a0 a1 with
  | none => none
  | some x3 => match idx (Ap a0 (AJ a1) (AS a0 (AJ (AS a0 (AJ a1) 0)) 0)) a1 with
  | none => none
  | some x4 => some (.inl ((Ap a0 (AJ a1) (AS a0 (AJ (AS a0 (AJ a1) 0)) 0)), (AS (Ap a0 (AJ a1) (AS a0 (AJ (AS a0 (AJ a1) 0)) 0)) (AJ a1) 0), ()))
 | false => some (.inr (.inl (a0, a1, ())))
def QE [Lk] : Uo → Option (Uo) := fun (a0, a1, _) =>
 match AT Iz many (a0, a1, ()) with
 | none => none
 | some r => match r with
 | .inl (o0, o1, _) => some (o0, o1, ())
 | .inr _ => none
def OS [Lk] := fun v => Lk.f (QE v)
theorem AFn v : OS v = QE v := AK _
abbrev AIm : AE := [(.tmp 0, .own 3 U2), (.tmp 1, .di), (.tmp 2, .di)]
abbrev AIl : AE := [(.obj 0, .own 3 U2), (.tmp 0, .dat .bool)]
abbrev AIk : List RS := [.one]
def Xg [Lk] : Uk → Option ((List Int × Bool × Unit)) := fun (a0, a1, a2, _) =>
 match OS (a0, a1, ()) with
 | none => none
 | some (y0, y1, _) => match OS (y0, a2, ()) with
 | none => none
 | some (y2, y3, _) => match idx y2 (imax y1 y3) with
 | none => none
 | some x4 => some ((Ap y2 (AJ (imax y1 y3)) (CF y1 y3)), (!(ieq y1 y3)), ())
def ANQ [Lk] := fun v => Lk.f (Xg v)
theorem ANP v : ANQ v = Xg v := AK _
abbrev PG : AE := [(.tmp 0, .dat Ul), (.cap 1 0, .own 3 U2), (.tmp 1, .bnd 151 0)]
abbrev PF : AE := [(.obj 0, .own 3 U2), (.tmp 0, .own 4 .bool)]
abbrev PE : List RS := [.one]
abbrev Wg : AE := [(.obj 0, .own 3 U2), (.tmp 1, .bnd 151 0), (.tmp 5, .own 4 .bool), (.tmp 8, .dat Ul), (.tmp 9, .di), (.tmp 10, .di)]
abbrev Wf : Am := [(.exit 0, [(.obj 0, .own 3 U2), (.tmp 5, .own 4 .bool)])]
def DF [Lk] : (List Int × List Bool × List U3 × Int × Int × Unit) → Option ((List Int × List Bool × List U3 × Int × Int × Unit) ⊕ (List Int × List Bool × Unit) ⊕ Unit) := fun (a0, a1, a2, a3, a4, _) =>
 match (ilt a4 a3) with
 | true => match idx a2 a4 with
  | none => none
  | some x0 => match ANQ (a0, x0.1, x0.2.1, ()) with
  | none => none
  | some (y1, y2, _) => match (fits ((AO a1) + (AO ([y2] : List (Bool))))) with
  | true => some (.inl (y1, (Aq a1 ([y2] : List (Bool))), a2, a3, (IntKind.wrap .i64 (a4 + 1)), ()))
  | false => none
 | false => some (.inr (.inl (a0, a1, ())))
def KD [Lk] : (List U3 × List Int × Unit) → Option ((List Int × List Bool × Unit)) := fun (a0, a1, _) =>
 match AT DF many (a1, ([] : List (Bool)), a0, (AO a0), 0, ()) with
 | none => none
 | some r => match r with
 | .inl (o0, o1, _) => some (o0, o1, ())
 | .inr _ => none
def Lt [Lk] := fun v => Lk.f (KD v)
theorem Wh v : Lt v = KD v := AK _
abbrev Zn : AE := [(.tmp 0, .own 3 U2), (.tmp 1, .dat Ul)]
abbrev Zm : AE := [(.obj 0, .own 3 U2), (.tmp 0, .own 4 .bool)]
abbrev Zl : List RS := [.one]
def QF [Lk] : (List Int × List U3 × Unit) → Option ((List Int × List Bool × Unit)) := fun (a0, a1, _) =>
 match Lt (a1, a0, ()) with
 | none => none
 | some (y0, y1, _) => some (y0, y1, ())
def Sv [Lk] := fun v => Lk.f (QF v)
theorem AFo v : Sv v = QF v := AK _
abbrev OW : AE := [(.tmp 0, .di), (.tmp 1, .dat Ul)]
abbrev OV : AE := [(.tmp 0, .own 3 U2), (.tmp 1, .di)]
abbrev OU : List RS := [.one, .one]
abbrev Vu : AE := [(.tmp 7, .own 3 U2), (.tmp 21, .di), (.tmp 22, .di)]
abbrev Vt : Am := [(.exit 0, [(.tmp 7, .own 3 U2)])]
def Cz [Lk] : Uk → Option (Uk ⊕ Um ⊕ Unit) := fun (a0, a1, a2, _) =>
 match (ilt a2 a1) with
 | true => match OS (a0, a2, ()) with
  | none => none
  | some (y0, y1, _) => match idx y0 a2 with
  | none => none
  | some x2 => some (.inl ((Ap y0 (AJ a2) y1), a1, (IntKind.wrap .i64 (a2 + 1)), ()))
 | false => some (.inr (.inl (a0, ())))
def Jm [Lk] : V3 → Option (Uo) := fun (a0, a1, _) =>
 match Sx (a0, a1, ()) with
 | none => none
 | some (y0, _) => match (!(ieq y0 0)) with
 | true => some (([] : List (Int)), y0, ())
 | false => match S0 (a0, ()) with
 | none => none
 | some (y1, _) => match Sv (y1, a1, ()) with
 | none => none
 | some (y2, y3, _) => match AT Cz many (y2, (AO y2), 0, ()) with
 | none => none
 | some r => match r with
 | .inl (o4, _) => some (o4, 0, ())
 | .inr _ => none
def LD [Lk] := fun v => Lk.f (Jm v)
theorem Vv v : LD v = Jm v := AK _
abbrev L5 : AE := [(.tmp 0, .di), (.tmp 1, .dat Ul)]
abbrev L4 : AE := [(.tmp 0, .own 3 U2)]
abbrev L3 : List RS := [.one]
abbrev RT : AE := [(.tmp 0, .di), (.tmp 1, .dat Ul), (.tmp 5, .own 3 U2), (.tmp 7, .dat .bool), (.tmp 8, .di)]
abbrev RP : Am := [(.exit 4, [(.tmp 0, .di), (.tmp 1, .dat Ul), (.tmp 5, .own 3 U2), (.tmp 7, .dat .bool)])]
def Cb [Lk] : (Int × List U3 × List Int × Bool × Int × Unit) → Option ((Int × List U3 × List Int × Bool × Int × Unit) ⊕ Vi ⊕ Unit) := fun (a0, a1, a2, a3, a4, _) =>
 match (ilt a4 (AO a1)) with
 | true => match idx a1 a4 with
  | none => none
  | some x0 => match idx a1 a4 with
  | none => none
  | some x1 => match (ilt x0.1 0) with
  | true => some (.inl (a0, a1, a2, a3, (IntKind.wrap .i64 (a4 + 1)), ()))
  | false => match (ilt x1.2.1 0) with
  | true => some (.inl (a0, a1, a2, a3, (IntKind.wrap .i64 (a4 + 1)), ()))
  | false => match (ile a0 x0.1) with
  | true => some (.inl (a0, a1, a2, a3, (IntKind.wrap .i64 (a4 + 1)), ()))
  | false => match (ile a0 x1.2.1) with
  | true => some (.inl (a0, a1, a2, a3, (IntKind.wrap .i64 (a4 + 1)), ()))
  | false => match idx a2 x0.1 with
  | none => none
  | some x2 => match idx a2 x1.2.1 with
  | none => none
  | some x3 => match (ieq (AS a2 (AJ x0.1) 0) (AS a2 (AJ x1.2.1) 0)) with
  | true => some (.inl (a0, a1, a2, a3, (IntKind.wrap .i64 (a4 + 1)), ()))
  | false => match idx a2 x0.1 with
  | none => none
  | some x4 => match idx a2 x1.2.1 with
  | none => none
  | some x5 => match idx a2 x0.1 with
  | none => none
  | some x6 => match idx (Ap a2 (AJ x0.1) (CF (AS a2 (AJ x0.1) 0) (AS a2 (AJ x1.2.1) 0))) x1.2.1 with
  | none => none
  | some x7 => some (.inl (a0, a1, (Ap (Ap a2 (AJ x0.1) (CF (AS a2 (AJ x0.1) 0) (AS a2 (AJ x1.2.1) 0))) (AJ x1.2.1) (CF (AS a2 (AJ x0.1) 0) (AS a2 (AJ x1.2.1) 0))), true, (IntKind.wrap .i64 (a4 + 1)), ()))
 | false => some (.inr (.inl (a0, a1, a2, a3, ())))
abbrev RU : AE := [(.tmp 0, .di), (.tmp 1, .dat Ul), (.tmp 5, .own 3 U2), (.tmp 7, .dat .bool)]
abbrev RQ : Am := [(.exit 2, [(.tmp 5, .own 3 U2)])]
def DV [Lk] : Vi → Option (Vi ⊕ Um ⊕ Unit) := fun (a0, a1, a2, a3, _) =>
 match a3 with
 | true => match AT Cb many (a0, a1, a2, false, 0, ()) with
  | none => none
  | some r => match r with
  | .inl (o0, o1, o2, o3, _) => some (.inl (o0, o1, o2, o3, ()))
  | .inr _ => none
 | false => some (.inr (.inl (a2, ())))
abbrev RV : AE := [(.tmp 0, .di), (.tmp 1, .dat Ul), (.tmp 5, .own 3 U2), (.tmp 6, .di)]
abbrev RR : Am := [(.exit 0, [(.tmp 0, .di), (.tmp 1, .dat Ul), (.tmp 5, .own 3 U2)])]
def Cc [Lk] : (Int × List U3 × List Int × Int × Unit) → Option ((Int × List U3 × List Int × Int × Unit) ⊕ (Int × List U3 × List Int × Unit) ⊕ Unit) := fun (a0, a1, a2, a3, _) =>
 match (ilt a3 a0) with
 | true => match (fits ((AO a2) + (AO ([a3] : List (Int))))) with
  | true => some (.inl (a0, a1, (Aq a2 ([a3] : List (Int))), (IntKind.wrap .i64 (a3 + 1)), ()))
  | false => none
 | false => some (.inr (.inl (a0, a1, a2, ())))
def IH [Lk] : V3 → Option (Um) := fun (a0, a1, _) =>
 match AT Cc many (a0, a1, ([] : List (Int)), 0, ()) with
 | none => none
 | some r => match r with
 | .inl (o0, o1, o2, _) => match AT DV many (o0, o1, o2, true, ()) with
  | none => none
  | some r => match r with
  | .inl (o3, _) => some (o3, ())
  | .inr _ => none
 | .inr _ => none
def Cm [Lk] := fun v => Lk.f (IH v)
theorem RW v : Cm v = IH v := AK _
abbrev AHp : AE := [(.tmp 0, .di)]
abbrev AHo : AE := [(.tmp 0, .di)]
abbrev AHn : List RS := [.one]
abbrev AMi : AE := [(.tmp 3, .di), (.tmp 4, .di)]
abbrev AMh : Am := [(.exit 0, [(.tmp 3, .di)])]
def Yi [Lk] : U3 → Option (U3 ⊕ U8 ⊕ Unit) := fun (a0, a1, _) =>
 match (ilt 0 a1) with
 | true => match quo? .i64 a1 2 with
  | none => none
  | some x0 => some (.inl ((IntKind.wrap .i64 (a0 + 1)), x0, ()))
 | false => some (.inr (.inl (a0, ())))
def AHr [Lk] : U8 → Option (U8) := fun (a0, _) =>
 match (ilt a0 1) with
 | true => some (0, ())
 | false => match (ilt 64 a0) with
 | true => some (0, ())
 | false => match AT Yi many (0, (IntKind.wrap .i64 (a0 - 1)), ()) with
 | none => none
 | some r => match r with
 | .inl (o0, _) => some (o0, ())
 | .inr _ => none
def Ke [Lk] := fun v => Lk.f (AHr v)
theorem Abq v : Ke v = AHr v := AK _
abbrev S3 : AE := [(.tmp 0, .dat Ua)]
abbrev S2 : AE := [(.tmp 0, .dat .bool)]
abbrev S1 : List RS := [.one]
abbrev AAT : AE := [(.tmp 1, .box 2), (.cell 0 0, .di), (.cell 0 1, .dat Un), (.tmp 3, .own 42 U5), (.tmp 6, .own 3 U2), (.tmp 7, .di), (.tmp 8, .di)]
abbrev AAR : Am := [(.exit 2, [(.tmp 1, .box 2), (.cell 0 0, .di), (.cell 0 1, .dat Un), (.tmp 3, .own 42 U5), (.tmp 7, .di)])]
def C2 [Lk] : (Int × List U1 × List U3 × List Int × Int × Int × Unit) → Option ((Int × List U1 × List U3 × List Int × Int × Int × Unit) ⊕ V2 ⊕ Unit) := fun (a0, a1, a2, a3, a4, a5, _) =>
 match (ilt a5 a0) with
 | true => match idx a3 a5 with
  | none => none
  | some x0 => match (ieq (AS a3 (AJ a5) 0) a5) with
  | true => some (.inl (a0, a1, a2, a3, (IntKind.wrap .i64 (a4 + 1)), (IntKind.wrap .i64 (a5 + 1)), ()))
  | false => some (.inl (a0, a1, a2, a3, a4, (IntKind.wrap .i64 (a5 + 1)), ()))
 | false => some (.inr (.inl (a0, a1, a2, a4, ())))
abbrev AAU : AE := [(.tmp 1, .box 2), (.cell 0 0, .di), (.cell 0 1, .dat Un), (.tmp 3, .own 42 U5), (.tmp 4, .di)]
abbrev AAS : Am := [(.ret, [(.tmp 2, .dat .bool)]), (.exit 0, [(.tmp 1, .box 2), (.cell 0 0, .di), (.cell 0 1, .dat Un), (.tmp 3, .own 42 U5)])]
def CR [Lk] : V2 → Option (V2 ⊕ Uf ⊕ (Int × List U1 × List U3 × Unit) ⊕ Unit) := fun (a0, a1, a2, a3, _) =>
 match (ilt a3 (AO a1)) with
 | true => match idx a1 a3 with
  | none => none
  | some x0 => match (ilt x0.1 0) with
  | true => some (.inr (.inl (false, ())))
  | false => match (ile x0.2.1 x0.1) with
  | true => some (.inr (.inl (false, ())))
  | false => match (ile a0 x0.2.1) with
  | true => some (.inr (.inl (false, ())))
  | false => match (ilt x0.2.2.1 0) with
  | true => some (.inr (.inl (false, ())))
  | false => match Ke (a0, ()) with
  | none => none
  | some (y1, _) => match (ilt y1 x0.2.2.1) with
  | true => some (.inr (.inl (false, ())))
  | false => match (ilt 0 a3) with
  | true => match idx a1 (IntKind.wrap .i64 (a3 - 1)) with
   | none => none
   | some x2 => match (ilt x0.1 x2.1) with
   | true => some (.inr (.inl (false, ())))
   | false => match idx a1 (IntKind.wrap .i64 (a3 - 1)) with
   | none => none
   | some x3 => match (ieq x3.1 x0.1) with
   | true => match idx a1 (IntKind.wrap .i64 (a3 - 1)) with
    | none => none
    | some x4 => match (ile x0.2.1 x4.2.1) with
    | true => some (.inr (.inl (false, ())))
    | false => match x0.2.2.2.1 with
    | true => match (fits ((AO a2) + (AO ([(x0.1, (x0.2.1, ()))] : List U3)))) with
     | true => some (.inl (a0, a1, (Aq a2 ([(x0.1, (x0.2.1, ()))] : List U3)), (IntKind.wrap .i64 (a3 + 1)), ()))
     | false => none
    | false => some (.inl (a0, a1, a2, (IntKind.wrap .i64 (a3 + 1)), ()))
   | false => match x0.2.2.2.1 with
   | true => match (fits ((AO a2) + (AO ([(x0.1, (x0.2.1, ()))] : List U3)))) with
    | true => some (.inl (a0, a1, (Aq a2 ([(x0.1, (x0.2.1, ()))] : List U3)), (IntKind.wrap .i64 (a3 + 1)), ()))
    | false => none
   | false => some (.inl (a0, a1, a2, (IntKind.wrap .i64 (a3 + 1)), ()))
  | false => match x0.2.2.2.1 with
  | true => match (fits ((AO a2) + (AO ([(x0.1, (x0.2.1, ()))] : List U3)))) with
   | true => some (.inl (a0, a1, (Aq a2 ([(x0.1, (x0.2.1, ()))] : List U3)), (IntKind.wrap .i64 (a3 + 1)), ()))
   | false => none
  | false => some (.inl (a0, a1, a2, (IntKind.wrap .i64 (a3 + 1)), ()))
 | false => some (.inr (.inr (.inl (a0, a1, a2, ()))))
def EA [Lk] : V4 → Option (Uf) := fun (a0, _) =>
 match (ilt a0.1 1) with
 | true => some (false, ())
 | false => match (ilt 64 a0.1) with
 | true => some (false, ())
 | false => match (ilt 400 (AO a0.2.1)) with
 | true => some (false, ())
 | false => match AT CR many (a0.1, a0.2.1, ([] : List U3), 0, ()) with
 | none => none
 | some r => match r with
 | .inl (o0, _) => some (o0, ())
 | .inr r => match r with
 | .inl (o1, o2, o3, _) => match Cm (o1, o3, ()) with
  | none => none
  | some (y4, _) => match AT C2 many (o1, o2, o3, y4, 0, 0, ()) with
  | none => none
  | some r => match r with
  | .inl (o5, o6, o7, o8, _) => some ((ieq o8 (IntKind.wrap .i64 (o5 - (AO o7)))), ())
  | .inr _ => none
 | .inr _ => none
def Bg [Lk] := fun v => Lk.f (EA v)
theorem Ex v : Bg v = EA v := AK _
abbrev UI : AE := [(.tmp 0, .dat Ua)]
abbrev UH : AE := [(.tmp 0, .own 42 U5)]
abbrev UG : List RS := [.one]
abbrev ACs : AE := [(.tmp 1, .box 2), (.cell 0 0, .di), (.cell 0 1, .dat Un), (.tmp 3, .own 42 U5), (.tmp 4, .di)]
abbrev ACr : Am := [(.exit 0, [(.tmp 3, .own 42 U5)])]
def Dz [Lk] : V2 → Option (V2 ⊕ Uz ⊕ Unit) := fun (a0, a1, a2, a3, _) =>
 match (ilt a3 (AO a1)) with
 | true => match idx a1 a3 with
  | none => none
  | some x0 => match idx a1 a3 with
  | none => none
  | some x1 => match (fits ((AO a2) + (AO ([(x0.1, (x1.2.1, ()))] : List U3)))) with
  | true => some (.inl (a0, a1, (Aq a2 ([(x0.1, (x1.2.1, ()))] : List U3)), (IntKind.wrap .i64 (a3 + 1)), ()))
  | false => none
 | false => some (.inr (.inl (a2, ())))
def NG [Lk] : V4 → Option (Uz) := fun (a0, _) =>
 match Bg ((a0.1, (a0.2.1, ())), ()) with
 | none => none
 | some (y0, _) => match (!y0) with
 | true => some (([] : List U3), ())
 | false => match AT Dz many (a0.1, a0.2.1, ([] : List U3), 0, ()) with
 | none => none
 | some r => match r with
 | .inl (o1, _) => some (o1, ())
 | .inr _ => none
def KB [Lk] := fun v => Lk.f (NG v)
theorem ACt v : KB v = NG v := AK _
abbrev AUi : AE := [(.tmp 0, .di), (.tmp 1, .di)]
abbrev AUh : AE := [(.tmp 0, .dat .bool)]
abbrev AUg : List RS := [.one]
def AKV [Lk] : U3 → Option (Uf) := fun (a0, a1, _) =>
 match (ile 1 a0) with
 | true => match (ile a0 64) with
  | true => match (ile 0 a1) with
   | true => some ((ilt a1 a0), ())
   | false => some (false, ())
  | false => some (false, ())
 | false => some (false, ())
def AEy [Lk] := fun v => Lk.f (AKV v)
theorem AXH v : AEy v = AKV v := AK _
abbrev SX : AE := [(.tmp 0, .di), (.tmp 1, .di)]
abbrev SW : AE := [(.tmp 0, .di), (.tmp 1, .di), (.tmp 2, .dat .bool), (.tmp 3, .dat .bool)]
abbrev SV : List RS := [.one, .one, .one, .one]
def Me [Lk] : U3 → Option ((Int × Int × Bool × Bool × Unit)) := fun (a0, a1, _) =>
 match AEy (a0, a1, ()) with
 | none => none
 | some (y0, _) => match y0 with
 | true => some (a1, 0, false, true, ())
 | false => match (ilt a0 1) with
 | true => some (0, 0, false, false, ())
 | false => match (ilt 64 a0) with
 | true => some (0, 0, false, false, ())
 | false => match (ilt a1 a0) with
 | true => some (0, 0, false, false, ())
 | false => match (ile (IntKind.wrap .i64 (a0 + (IntKind.wrap .i64 (a0 * a0)))) a1) with
 | true => some (0, 0, false, false, ())
 | false => match quo? .i64 (IntKind.wrap .i64 (a1 - a0)) a0 with
 | none => none
 | some x1 => match rem? (IntKind.wrap .i64 (a1 - a0)) a0 with
 | none => none
 | some x2 => match (ieq x1 x2) with
 | true => some (0, 0, false, false, ())
 | false => some (x1, x2, true, true, ())
def Mf [Lk] := fun v => Lk.f (Me v)
theorem Yj v : Mf v = Me v := AK _
abbrev ALj : AE := [(.tmp 0, .di), (.tmp 1, .di), (.tmp 2, .di)]
abbrev ALi : AE := [(.tmp 0, .di)]
abbrev ALh : List RS := [.one]
def X4 [Lk] : (Int × Int × Int × Unit) → Option (U8) := fun (a0, a1, a2, _) =>
 match AEy (a0, a1, ()) with
 | none => none
 | some (y0, _) => match (!y0) with
 | true => some ((-1 : Int), ())
 | false => match AEy (a0, a2, ()) with
 | none => none
 | some (y1, _) => match (!y1) with
 | true => some ((-1 : Int), ())
 | false => match (ieq a1 a2) with
 | true => some ((-1 : Int), ())
 | false => some ((IntKind.wrap .i64 ((IntKind.wrap .i64 (a0 + (IntKind.wrap .i64 (a1 * a0)))) + a2)), ())
def ADT [Lk] := fun v => Lk.f (X4 v)
theorem AQq v : ADT v = X4 v := AK _
abbrev ABb : AE := [(.tmp 0, .di)]
abbrev ABa : AE := [(.tmp 0, .di), (.tmp 1, .own 55 U6), (.tmp 2, .di)]
abbrev ABZ : List RS := [.agg 2, .one]
abbrev AGO : AE := [(.tmp 0, .di), (.tmp 2, .box 2), (.cell 0 0, .di), (.cell 0 1, .nil U6), (.tmp 4, .box 2), (.cell 1 0, .di), (.cell 1 1, .own 55 U6), (.tmp 5, .di)]
abbrev AGN : Am := [(.exit 0, [(.tmp 2, .box 2), (.cell 0 0, .di), (.cell 0 1, .nil U6), (.tmp 4, .box 2), (.cell 1 0, .di), (.cell 1 1, .own 55 U6)])]
def E3 [Lk] : (Int × Int × Int × List U4 × Int × Unit) → Option ((Int × Int × Int × List U4 × Int × Unit) ⊕ (Int × Int × List U4 × Unit) ⊕ Unit) := fun (a0, a1, a2, a3, a4, _) =>
 match (ilt a4 a0) with
 | true => match (fits ((AO a3) + (AO ([([a4] : List (Int))] : List U4)))) with
  | true => some (.inl (a0, a1, a2, (Aq a3 ([([a4] : List (Int))] : List U4)), (IntKind.wrap .i64 (a4 + 1)), ()))
  | false => none
 | false => some (.inr (.inl (a1, a2, a3, ())))
def Qk [Lk] : U8 → Option (V1) := fun (a0, _) =>
 match (ilt a0 1) with
 | true => some (0, ([] : List U4), 1, ())
 | false => match (ilt 64 a0) with
 | true => some (0, ([] : List U4), 1, ())
 | false => match AT E3 many (a0, 0, a0, ([] : List U4), 0, ()) with
 | none => none
 | some r => match r with
 | .inl (o0, o1, o2, _) => some (o1, o2, 0, ())
 | .inr _ => none
def Tj [Lk] := fun v => Lk.f (Qk v)
theorem AGP v : Tj v = Qk v := AK _
abbrev OG : AE := [(.tmp 0, .di), (.tmp 1, .di), (.tmp 2, .di)]
abbrev OF : AE := [(.tmp 0, .dat .bool)]
abbrev OE : List RS := [.one]
def Jf [Lk] : (Int × Int × Int × Unit) → Option (Uf) := fun (a0, a1, a2, _) =>
 match Mf (a0, a1, ()) with
 | none => none
 | some (y0, y1, y2, y3, _) => match y3 with
 | true => match (!y2) with
  | true => match (ieq y0 a2) with
   | true => some (true, ())
   | false => match y2 with
   | true => some ((ieq y1 a2), ())
   | false => some (false, ())
  | false => match y2 with
  | true => some ((ieq y1 a2), ())
  | false => some (false, ())
 | false => some (false, ())
def Kw [Lk] := fun v => Lk.f (Jf v)
theorem Vp v : Kw v = Jf v := AK _
abbrev Yd : AE := [(.tmp 0, .di), (.tmp 1, .dat U6)]
abbrev Yc : AE := [(.tmp 0, .dat .bool)]
abbrev Yb : List RS := [.one]
abbrev AFW : AE := [(.tmp 0, .di), (.tmp 1, .own 3 U2), (.tmp 6, .di), (.tmp 14, .own 3 U2), (.tmp 15, .di), (.tmp 27, .dat .bool), (.tmp 28, .dat .bool), (.tmp 64, .dat .bool), (.tmp 67, .dat .bool), (.tmp 70, .di), (.tmp 71, .di), (.tmp 72, .dat .bool), (.tmp 75, .di), (.tmp 76, .di), (.tmp 77, .di), (.tmp 78, .di), (.tmp 79, .di), (.tmp 80, .dat .bool), (.tmp 83, .di), (.tmp 84, .own' 0), (.tmp 85, .di), (.tmp 86, .own' 0), (.tmp 87, .di), (.tmp 88, .di), (.tmp 89, .di), (.tmp 90, .own' 0), (.tmp 91, .di), (.tmp 92, .di), (.tmp 94, .di), (.tmp 95, .di), (.tmp 96, .dat .bool)]
abbrev AFT : Am := [(.exit 4, [(.tmp 0, .di), (.tmp 6, .di), (.tmp 14, .own 3 U2), (.tmp 27, .dat .bool), (.tmp 28, .dat .bool), (.tmp 64, .dat .bool), (.tmp 67, .dat .bool), (.tmp 70, .di), (.tmp 71, .di), (.tmp 72, .dat .bool), (.tmp 75, .di), (.tmp 76, .di), (.tmp 77, .di), (.tmp 78, .di), (.tmp 79, .di), (.tmp 80, .dat .bool), (.tmp 83, .di), (.tmp 84, .own 3 U2), (.tmp 85, .di), (.tmp 86, .own' 1), (.tmp 87, .di), (.tmp 88, .di), (.tmp 89, .di), (.tmp 90, .own' 1), (.tmp 91, .di), (.tmp 92, .di), (.tmp 94, .di), (.tmp 95, .di), (.tmp 96, .dat .bool)])]
def Em [Lk] : Ux → Option (Ux ⊕ (Int × Int × List Int × Bool × Bool × Bool × Bool × Int × Int × Bool × Int × Int × Int × Int × Int × Bool × Int × List Int × Int × Int × Int × Int × Int × Int × Int × Int × Bool × Unit) ⊕ Unit) := fun (a0, a1, a2, a3, a4, a5, a6, a7, a8, a9, a10, a11, a12, a13, a14, a15, a16, a17, a18, a19, a20, a21, a22, a23, a24, a25, a26, a27, _) =>
 match (ilt a4 (AO a1)) with
 | true => match rem? (IntKind.wrap .i64 (a2 + a4)) (AO a1) with
  | none => none
  | some x0 => match idx a1 x0 with
  | none => none
  | some x1 => match (fits ((AO a3) + (AO ([(AS a1 (AJ x0) 0)] : List (Int))))) with
  | true => some (.inl (a0, a1, a2, (Aq a3 ([(AS a1 (AJ x0) 0)] : List (Int))), (IntKind.wrap .i64 (a4 + 1)), a5, a6, a7, a8, a9, a10, a11, a12, a13, a14, a15, a16, a17, a18, a19, a20, a21, a22, a23, a24, a25, a26, a27, ()))
  | false => none
 | false => some (.inr (.inl (a0, a2, a3, a5, a6, a7, a8, a9, a10, a11, a12, a13, a14, a15, a16, a17, a18, a1, a19, a20, a21, a22, a23, a24, a25, a26, a27, ())))
abbrev AFX : AE := [(.tmp 0, .di), (.tmp 1, .own 3 U2), (.tmp 5, .dat .bool), (.tmp 6, .di)]
abbrev AFU : Am := [(.exit 2, [(.tmp 0, .di), (.tmp 1, .own 3 U2), (.tmp 5, .dat .bool)])]
def CB [Lk] : (Int × List Int × Bool × Int × Unit) → Option ((Int × List Int × Bool × Int × Unit) ⊕ (Int × List Int × Bool × Unit) ⊕ Unit) := fun (a0, a1, a2, a3, _) =>
 match (ilt a3 (AO a1)) with
 | true => match (!a2) with
  | true => match idx a1 a3 with
   | none => none
   | some x0 => match rem? (IntKind.wrap .i64 (a3 + 1)) (AO a1) with
   | none => none
   | some x1 => match idx a1 x1 with
   | none => none
   | some x2 => match rem? (IntKind.wrap .i64 (a3 + 2)) (AO a1) with
   | none => none
   | some x3 => match idx a1 x3 with
   | none => none
   | some x4 => match Mf (a0, (AS a1 (AJ a3) 0), ()) with
   | none => none
   | some (y5, y6, y7, y8, _) => match (ile 4 (AO a1)) with
   | true => match y8 with
    | true => match y7 with
     | true => match (ieq (AS a1 (AJ x1) 0) y6) with
      | true => match ADT (a0, y6, y5, ()) with
       | none => none
       | some (y9, _) => match (ieq (AS a1 (AJ x3) 0) y9) with
       | true => match rem? (IntKind.wrap .i64 ((IntKind.wrap .i64 (a3 + (AO a1))) - 1)) (AO a1) with
        | none => none
        | some x10 => match idx a1 x10 with
        | none => none
        | some x11 => match Kw (a0, (AS a1 (AJ x10) 0), y5, ()) with
        | none => none
        | some (y12, _) => match y12 with
        | true => match AT Em many (a0, a1, a3, ([] : List (Int)), 3, a2, (!a2), y8, y7, (AS a1 (AJ x1) 0), y6, (ieq (AS a1 (AJ x1) 0) y6), (AS a1 (AJ x3) 0), a0, y6, y5, y9, (ieq (AS a1 (AJ x3) 0) y9), a0, a3, (AO a1), (IntKind.wrap .i64 (a3 + (AO a1))), (IntKind.wrap .i64 ((IntKind.wrap .i64 (a3 + (AO a1))) - 1)), (AO a1), x10, (AS a1 (AJ x10) 0), y5, y12, ()) with
         | none => none
         | some r => match r with
         | .inl (o13, o14, o15, o16, o17, o18, o19, o20, o21, o22, o23, o24, o25, o26, o27, o28, o29, o30, o31, o32, o33, o34, o35, o36, o37, o38, o39, _) => some (.inl (o13, o15, true, (IntKind.wrap .i64 (o14 + 1)), ()))
         | .inr _ => none
        | false => some (.inl (a0, a1, a2, (IntKind.wrap .i64 (a3 + 1)), ()))
       | false => some (.inl (a0, a1, a2, (IntKind.wrap .i64 (a3 + 1)), ()))
      | false => some (.inl (a0, a1, a2, (IntKind.wrap .i64 (a3 + 1)), ()))
     | false => some (.inl (a0, a1, a2, (IntKind.wrap .i64 (a3 + 1)), ()))
    | false => some (.inl (a0, a1, a2, (IntKind.wrap .i64 (a3 + 1)), ()))
   | false => some (.inl (a0, a1, a2, (IntKind.wrap .i64 (a3 + 1)), ()))
  | false => some (.inr (.inl (a0, a1, a2, ())))
 | false => some (.inr (.inl (a0, a1, a2, ())))
abbrev AFY : AE := [(.tmp 0, .di), (.tmp 1, .own 3 U2)]
abbrev AFV : Am := [(.ret, [(.tmp 4, .dat .bool)]), (.exit 0, [(.tmp 0, .di), (.tmp 1, .own 3 U2)])]
def Gn [Lk] : Vd → Option (Vd ⊕ Uf ⊕ Vd ⊕ Unit) := fun (a0, a1, _) =>
 match (ilt 1 (AO a1)) with
 | true => match AT CB many (a0, a1, false, 0, ()) with
  | none => none
  | some r => match r with
  | .inl (o0, o1, o2, _) => match (!o2) with
   | true => some (.inr (.inl (false, ())))
   | false => some (.inl (o0, o1, ()))
  | .inr _ => none
 | false => some (.inr (.inr (.inl (a0, a1, ()))))
def Py [Lk] : Vd → Option (Uf) := fun (a0, a1, _) =>
 match (fits ((AO ([] : List (Int))) + (AO a1))) with
 | true => match AT Gn many (a0, (Aq ([] : List (Int)) a1), ()) with
  | none => none
  | some r => match r with
  | .inl (o0, _) => some (o0, ())
  | .inr r => match r with
  | .inl (o1, o2, _) => match (ieq (AO o2) 1) with
   | true => match idx o2 0 with
    | none => none
    | some x3 => match AEy (o1, (AS o2 0 0), ()) with
    | none => none
    | some (y4, _) => some (y4, ())
   | false => some (false, ())
  | .inr _ => none
 | false => none
def Ye [Lk] := fun v => Lk.f (Py v)
theorem AFZ v : Ye v = Py v := AK _
abbrev TQ : AE := [(.tmp 0, .dat U6), (.tmp 1, .di)]
abbrev TP : AE := [(.tmp 0, .di)]
abbrev TO : List RS := [.one]
abbrev AA0 : AE := [(.tmp 0, .dat U6), (.tmp 1, .di), (.tmp 5, .di)]
abbrev AAz : Am := [(.ret, [(.tmp 4, .di)]), (.exit 0, [])]
def Dv [Lk] : Uk → Option (Uk ⊕ U8 ⊕ (Unit) ⊕ Unit) := fun (a0, a1, a2, _) =>
 match (ilt a2 (AO a0)) with
 | true => match idx a0 a2 with
  | none => none
  | some x0 => match (ieq x0 a1) with
  | true => some (.inr (.inl (a2, ())))
  | false => some (.inl (a0, a1, (IntKind.wrap .i64 (a2 + 1)), ()))
 | false => some (.inr (.inr (.inl ())))
def Mw [Lk] : Uo → Option (U8) := fun (a0, a1, _) =>
 match AT Dv many (a0, a1, 0, ()) with
 | none => none
 | some r => match r with
 | .inl (o0, _) => some (o0, ())
 | .inr r => match r with
 | .inl _ => some ((-1 : Int), ())
 | .inr _ => none
def Hu [Lk] := fun v => Lk.f (Mw v)
theorem AA1 v : Hu v = Mw v := AK _
abbrev S9 : AE := [(.tmp 0, .dat U6)]
abbrev S8 : AE := [(.tmp 0, .dat .bool)]
abbrev S7 : List RS := [.one]
abbrev AAb : AE := [(.tmp 0, .dat U6), (.tmp 3, .di)]
abbrev AAa : Am := [(.ret, [(.tmp 2, .dat .bool)]), (.exit 0, [])]
def C3 [Lk] : Uo → Option (Uo ⊕ Uf ⊕ (Unit) ⊕ Unit) := fun (a0, a1, _) =>
 match (ilt a1 (AO a0)) with
 | true => match idx a0 a1 with
  | none => none
  | some x0 => match (ilt x0 0) with
  | true => some (.inr (.inl (false, ())))
  | false => match idx a0 a1 with
  | none => none
  | some x1 => match (ilt 10000 x1) with
  | true => some (.inr (.inl (false, ())))
  | false => match CM a0 0 a1 with
  | none => none
  | some x2 => match idx a0 a1 with
  | none => none
  | some x3 => match Hu (x2, x3, ()) with
  | none => none
  | some (y4, _) => match (ile 0 y4) with
  | true => some (.inr (.inl (false, ())))
  | false => some (.inl (a0, (IntKind.wrap .i64 (a1 + 1)), ()))
 | false => some (.inr (.inr (.inl ())))
def Mo [Lk] : Um → Option (Uf) := fun (a0, _) =>
 match (ilt 1000 (AO a0)) with
 | true => some (false, ())
 | false => match AT C3 many (a0, 0, ()) with
 | none => none
 | some r => match r with
 | .inl (o0, _) => some (o0, ())
 | .inr r => match r with
 | .inl _ => some (true, ())
 | .inr _ => none
def Jn [Lk] := fun v => Lk.f (Mo v)
theorem AAc v : Jn v = Mo v := AK _
abbrev ACd : AE := [(.tmp 0, .dat U6), (.tmp 1, .di)]
abbrev ACc : AE := [(.tmp 0, .own 3 U2), (.tmp 1, .dat .bool)]
abbrev ACb : List RS := [.one, .one]
def Q5 [Lk] : Uo → Option ((List Int × Bool × Unit)) := fun (a0, a1, _) =>
 match Hu (a0, a1, ()) with
 | none => none
 | some (y0, _) => match Jn (a0, ()) with
 | none => none
 | some (y1, _) => match (!y1) with
 | true => some (([] : List (Int)), false, ())
 | false => match (ilt y0 0) with
 | true => some (([] : List (Int)), false, ())
 | false => match CM a0 y0 (AO a0) with
 | none => none
 | some x2 => match (fits ((AO ([] : List (Int))) + (AO x2))) with
 | true => match CM a0 0 y0 with
  | none => none
  | some x3 => match (fits ((AO (Aq ([] : List (Int)) x2)) + (AO x3))) with
  | true => some ((Aq (Aq ([] : List (Int)) x2) x3), true, ())
  | false => none
 | false => none
def O5 [Lk] := fun v => Lk.f (Q5 v)
theorem AGq v : O5 v = Q5 v := AK _
abbrev TH : AE := [(.tmp 0, .dat U6)]
abbrev TG : AE := [(.tmp 0, .own 3 U2)]
abbrev TF : List RS := [.one]
abbrev AAq : AE := [(.tmp 0, .dat U6), (.tmp 3, .di), (.tmp 4, .di)]
abbrev AAp : Am := [(.exit 0, [(.tmp 0, .dat U6), (.tmp 3, .di)])]
def Dt [Lk] : Uk → Option (Uk ⊕ Uo ⊕ Unit) := fun (a0, a1, a2, _) =>
 match (ilt a2 (AO a0)) with
 | true => match idx a0 a2 with
  | none => none
  | some x0 => some (.inl (a0, (CF a1 x0), (IntKind.wrap .i64 (a2 + 1)), ()))
 | false => some (.inr (.inl (a0, a1, ())))
def Mt [Lk] : Um → Option (Um) := fun (a0, _) =>
 match Jn (a0, ()) with
 | none => none
 | some (y0, _) => match (!y0) with
 | true => some (([] : List (Int)), ())
 | false => match (ieq (AO a0) 0) with
 | true => some (([] : List (Int)), ())
 | false => match idx a0 0 with
 | none => none
 | some x1 => match AT Dt many (a0, x1, 0, ()) with
 | none => none
 | some r => match r with
 | .inl (o2, o3, _) => match O5 (o2, o3, ()) with
  | none => none
  | some (y4, y5, _) => some (y4, ())
 | .inr _ => none
def Mu [Lk] := fun v => Lk.f (Mt v)
theorem AAr v : Mu v = Mt v := AK _
abbrev Tq : AE := [(.tmp 0, .dat Ui), (.tmp 1, .dat Ui)]
abbrev Tp : AE := [(.tmp 0, .dat .bool)]
abbrev To : List RS := [.one]
abbrev ABq : AE := [(.tmp 0, .dat Ui), (.tmp 1, .dat Ui), (.tmp 5, .di)]
abbrev ABp : Am := [(.ret, [(.tmp 4, .dat .bool)]), (.exit 0, [])]
def C9 [Lk] : (List U4 × List U4 × Int × Unit) → Option ((List U4 × List U4 × Int × Unit) ⊕ Uf ⊕ (Unit) ⊕ Unit) := fun (a0, a1, a2, _) =>
 match (ilt a2 (AO a0)) with
 | true => match idx a0 a2 with
  | none => none
  | some x0 => match idx a1 a2 with
  | none => none
  | some x1 => match ACA (x0, x1, ()) with
  | none => none
  | some (y2, _) => match (!y2) with
  | true => some (.inr (.inl (false, ())))
  | false => some (.inl (a0, a1, (IntKind.wrap .i64 (a2 + 1)), ()))
 | false => some (.inr (.inr (.inl ())))
def M9 [Lk] : (List U4 × List U4 × Unit) → Option (Uf) := fun (a0, a1, _) =>
 match (!(ieq (AO a0) (AO a1))) with
 | true => some (false, ())
 | false => match AT C9 many (a0, a1, 0, ()) with
 | none => none
 | some r => match r with
 | .inl (o0, _) => some (o0, ())
 | .inr r => match r with
 | .inl _ => some (true, ())
 | .inr _ => none
def Qm [Lk] := fun v => Lk.f (M9 v)
theorem ABr v : Qm v = M9 v := AK _
abbrev S6 : AE := [(.tmp 0, .dat U9)]
abbrev S5 : AE := [(.tmp 0, .dat .bool)]
abbrev S4 : List RS := [.one]
abbrev AAX : AE := [(.tmp 1, .box 2), (.cell 0 0, .di), (.cell 0 1, .dat Ui), (.tmp 3, .own 4 .bool), (.tmp 4, .di), (.tmp 5, .di), (.tmp 6, .di), (.tmp 7, .dat U6), (.tmp 8, .di), (.tmp 44, .dat U6), (.tmp 45, .di), (.tmp 46, .dat .bool), (.tmp 49, .ptr' 0 0), (.tmp 50, .di), (.tmp 51, .dat U6), (.tmp 52, .dat .bool), (.tmp 53, .dat .bool), (.tmp 56, .dat U6), (.tmp 57, .dat U6), (.tmp 58, .own 55 U6), (.tmp 59, .dat U6), (.tmp 60, .own 55 U6), (.tmp 61, .dat .bool), (.tmp 62, .dat .bool), (.tmp 65, .dat U6), (.tmp 67, .di), (.tmp 68, .di), (.tmp 69, .dat .bool)]
abbrev AAV : Am := [(.ret, [(.tmp 2, .dat .bool)]), (.exit 2, [(.tmp 1, .box 2), (.cell 0 0, .di), (.cell 0 1, .dat Ui), (.tmp 3, .own 4 .bool), (.tmp 4, .di), (.tmp 5, .di), (.tmp 6, .di), (.tmp 44, .dat U6), (.tmp 45, .di), (.tmp 46, .dat .bool), (.tmp 49, .ptr' 0 0), (.tmp 50, .di), (.tmp 51, .dat U6), (.tmp 52, .dat .bool), (.tmp 53, .dat .bool), (.tmp 56, .dat U6), (.tmp 57, .dat U6), (.tmp 58, .own 55 U6), (.tmp 59, .dat U6), (.tmp 60, .own 55 U6), (.tmp 61, .dat .bool), (.tmp 62, .dat .bool), (.tmp 65, .dat U6), (.tmp 67, .di), (.tmp 68, .di), (.tmp 69, .dat .bool)])]
def CS [Lk] : Uv → Option (Uv ⊕ Uf ⊕ (Int × List U4 × List Bool × Int × Int × Int × List Int × Int × Bool × Int × List Int × Bool × Bool × List Int × List Int × List U4 × List Int × List U4 × Bool × Bool × List Int × Int × Int × Bool × Unit) ⊕ Unit) := fun (a0, a1, a2, a3, a4, a5, a6, a7, a8, a9, a10, a11, a12, a13, a14, a15, a16, a17, a18, a19, a20, a21, a22, a23, a24, a25, _) =>
 match (ilt a7 (AO a6)) with
 | true => match idx a6 a7 with
  | none => none
  | some x0 => match (ilt x0 a0) with
  | true => match idx a6 a7 with
   | none => none
   | some x1 => match idx a2 x1 with
   | none => none
   | some x2 => match (AS a2 (AJ x1) false) with
   | true => some (.inr (.inl (false, ())))
   | false => match idx a6 a7 with
   | none => none
   | some x3 => match idx a2 x3 with
   | none => none
   | some x4 => some (.inl (a0, a1, (Ap a2 (AJ x3) true), a3, (IntKind.wrap .i64 (a4 + 1)), a5, a6, (IntKind.wrap .i64 (a7 + 1)), a8, a9, a10, a11, a12, a13, a14, a15, a16, a17, a18, a19, a20, a21, a22, a23, a24, a25, ()))
  | false => some (.inl (a0, a1, a2, a3, a4, a5, a6, (IntKind.wrap .i64 (a7 + 1)), a8, a9, a10, a11, a12, a13, a14, a15, a16, a17, a18, a19, a20, a21, a22, a23, a24, a25, ()))
 | false => some (.inr (.inr (.inl (a0, a1, a2, a3, a4, a5, a8, a9, a10, a11, a12, a13, a14, a15, a16, a17, a18, a19, a20, a21, a22, a23, a24, a25, ()))))
abbrev AAY : AE := [(.tmp 1, .box 2), (.cell 0 0, .di), (.cell 0 1, .dat Ui), (.tmp 3, .own 4 .bool), (.tmp 4, .di), (.tmp 5, .di), (.tmp 6, .di)]
abbrev AAW : Am := [(.ret, [(.tmp 2, .dat .bool)]), (.exit 0, [(.tmp 1, .box 2), (.cell 0 0, .di), (.cell 0 1, .dat Ui), (.tmp 5, .di)])]
def CT [Lk] : (Int × List U4 × List Bool × Int × Int × Int × Unit) → Option ((Int × List U4 × List Bool × Int × Int × Int × Unit) ⊕ Uf ⊕ V1 ⊕ Unit) := fun (a0, a1, a2, a3, a4, a5, _) =>
 match (ilt a5 (AO a1)) with
 | true => match idx a1 a5 with
  | none => none
  | some x0 => match Jn (x0, ()) with
  | none => none
  | some (y1, _) => match (!y1) with
  | true => some (.inr (.inl (false, ())))
  | false => match (ieq (AO x0) 0) with
  | true => some (.inr (.inl (false, ())))
  | false => match Ye (a0, x0, ()) with
  | none => none
  | some (y2, _) => match (!y2) with
  | true => some (.inr (.inl (false, ())))
  | false => match Mu (x0, ()) with
  | none => none
  | some (y3, _) => match Qm (([y3] : List U4), ([x0] : List U4), ()) with
  | none => none
  | some (y4, _) => match (!y4) with
  | true => some (.inr (.inl (false, ())))
  | false => match idx x0 0 with
  | none => none
  | some x5 => match (ile x5 a3) with
  | true => some (.inr (.inl (false, ())))
  | false => match idx x0 0 with
  | none => none
  | some x6 => match AT CS many (a0, a1, a2, x6, a4, a5, x0, 0, x0, (AO x0), (ieq (AO x0) 0), a0, x0, y2, (!y2), x0, y3, ([y3] : List U4), x0, ([x0] : List U4), y4, (!y4), x0, x5, a3, (ile x5 a3), ()) with
  | none => none
  | some r => match r with
  | .inl (o7, _) => some (.inr (.inl (o7, ())))
  | .inr r => match r with
  | .inl (o8, o9, o10, o11, o12, o13, o14, o15, o16, o17, o18, o19, o20, o21, o22, o23, o24, o25, o26, o27, o28, o29, o30, o31, _) => some (.inl (o8, o9, o10, o11, o12, (IntKind.wrap .i64 (o13 + 1)), ()))
  | .inr _ => none
 | false => some (.inr (.inr (.inl (a0, a1, a4, ()))))
def Mm [Lk] : (Ub × Unit) → Option (Uf) := fun (a0, _) =>
 match (ilt a0.1 1) with
 | true => some (false, ())
 | false => match (ilt 64 a0.1) with
 | true => some (false, ())
 | false => match (ilt a0.1 (AO a0.2.1)) with
 | true => some (false, ())
 | false => match (JI a0.1 && JI a0.1 && ile a0.1 a0.1 && true) with
 | true => match AT CT many (a0.1, a0.2.1, (JK (AJ a0.1) false), (-1 : Int), (0 : Int), (0 : Int), ()) with
  | none => none
  | some r => match r with
  | .inl (o0, _) => some (o0, ())
  | .inr r => match r with
  | .inl (o1, o2, o3, _) => some ((ieq o3 o1), ())
  | .inr _ => none
 | false => none
def Mn [Lk] := fun v => Lk.f (Mm v)
theorem AAZ v : Mn v = Mm v := AK _
abbrev TM : AE := [(.tmp 0, .dat U9), (.tmp 1, .di)]
abbrev TL : AE := [(.tmp 0, .di)]
abbrev TK : List RS := [.one]
abbrev AAx : AE := [(.tmp 1, .di), (.tmp 2, .box 2), (.cell 0 0, .di), (.cell 0 1, .dat Ui), (.tmp 5, .di)]
abbrev AAw : Am := [(.ret, [(.tmp 4, .di)]), (.exit 0, [])]
def Du [Lk] : (Int × Int × List U4 × Int × Unit) → Option ((Int × Int × List U4 × Int × Unit) ⊕ U8 ⊕ (Unit) ⊕ Unit) := fun (a0, a1, a2, a3, _) =>
 match (ilt a3 (AO a2)) with
 | true => match idx a2 a3 with
  | none => none
  | some x0 => match Hu (x0, a0, ()) with
  | none => none
  | some (y1, _) => match (ile 0 y1) with
  | true => some (.inr (.inl (a3, ())))
  | false => some (.inl (a0, a1, a2, (IntKind.wrap .i64 (a3 + 1)), ()))
 | false => some (.inr (.inr (.inl ())))
def Mv [Lk] : V8 → Option (U8) := fun (a0, a1, _) =>
 match AT Du many (a1, a0.1, a0.2.1, 0, ()) with
 | none => none
 | some r => match r with
 | .inl (o0, _) => some (o0, ())
 | .inr r => match r with
 | .inl _ => some ((-1 : Int), ())
 | .inr _ => none
def Ht [Lk] := fun v => Lk.f (Mv v)
theorem AAy v : Ht v = Mv v := AK _
abbrev AJQ : AE := [(.tmp 0, .dat Ui), (.tmp 1, .dat U6)]
abbrev AJP : AE := [(.tmp 0, .own 55 U6)]
abbrev AJO : List RS := [.one]
abbrev AN4 : AE := [(.tmp 0, .dat Ui), (.tmp 1, .own 3 U2), (.tmp 5, .di)]
abbrev AN3 : Am := [(.exit 0, [(.tmp 0, .dat Ui), (.tmp 1, .own 3 U2), (.tmp 5, .di)])]
def HB [Lk] : (List U4 × List Int × Int × Unit) → Option ((List U4 × List Int × Int × Unit) ⊕ (List U4 × List Int × Int × Unit) ⊕ Unit) := fun (a0, a1, a2, _) =>
 match (ilt a2 (AO a0)) with
 | true => match idx a0 a2 with
  | none => none
  | some x0 => match idx x0 0 with
  | none => none
  | some x1 => match idx a1 0 with
  | none => none
  | some x2 => match (ilt x1 (AS a1 0 0)) with
  | true => some (.inl (a0, a1, (IntKind.wrap .i64 (a2 + 1)), ()))
  | false => some (.inr (.inl (a0, a1, a2, ())))
 | false => some (.inr (.inl (a0, a1, a2, ())))
def Xm [Lk] : (List U4 × List Int × Unit) → Option (Uj) := fun (a0, a1, _) =>
 match Mu (a1, ()) with
 | none => none
 | some (y0, _) => match AT HB many (a0, y0, 0, ()) with
 | none => none
 | some r => match r with
 | .inl (o1, o2, o3, _) => match CM o1 0 o3 with
  | none => none
  | some x4 => match (fits ((AO ([] : List U4)) + (AO x4))) with
  | true => match (fits ((AO (Aq ([] : List U4) x4)) + (AO ([o2] : List U4)))) with
   | true => match CM o1 o3 (AO o1) with
    | none => none
    | some x5 => match (fits ((AO (Aq (Aq ([] : List U4) x4) ([o2] : List U4))) + (AO x5))) with
    | true => some ((Aq (Aq (Aq ([] : List U4) x4) ([o2] : List U4)) x5), ())
    | false => none
   | false => none
  | false => none
 | .inr _ => none
def AGA [Lk] := fun v => Lk.f (Xm v)
theorem AN5 v : AGA v = Xm v := AK _
abbrev Kq : AE := [(.tmp 0, .dat Ui), (.tmp 1, .di)]
abbrev Kp : AE := [(.tmp 0, .own 55 U6)]
abbrev Ko : List RS := [.one]
def Ho [Lk] : V9 → Option (Uj) := fun (a0, a1, _) =>
 match CM a0 0 a1 with
 | none => none
 | some x0 => match (fits ((AO ([] : List U4)) + (AO x0))) with
 | true => match CM a0 (IntKind.wrap .i64 (a1 + 1)) (AO a0) with
  | none => none
  | some x1 => match (fits ((AO (Aq ([] : List U4) x0)) + (AO x1))) with
  | true => some ((Aq (Aq ([] : List U4) x0) x1), ())
  | false => none
 | false => none
def D8 [Lk] := fun v => Lk.f (Ho v)
theorem Pn v : D8 v = Ho v := AK _
abbrev ABw : AE := [(.tmp 0, .dat U9), (.tmp 1, .di), (.tmp 2, .di)]
abbrev ABv : AE := [(.tmp 0, .di), (.tmp 1, .dat Ui), (.tmp 2, .di)]
abbrev ABu : List RS := [.agg 2, .one]
def HH [Lk] : (Ub × Int × Int × Unit) → Option (V1) := fun (a0, a1, a2, _) =>
 match Mn ((a0.1, (a0.2.1, ())), ()) with
 | none => none
 | some (y0, _) => match (!y0) with
 | true => some (a0.1, a0.2.1, 1, ())
 | false => match AEy (a0.1, a1, ()) with
 | none => none
 | some (y1, _) => match (!y1) with
 | true => some (a0.1, a0.2.1, 10, ())
 | false => match AEy (a0.1, a2, ()) with
 | none => none
 | some (y2, _) => match (!y2) with
 | true => some (a0.1, a0.2.1, 10, ())
 | false => match Ht ((a0.1, (a0.2.1, ())), a1, ()) with
 | none => none
 | some (y3, _) => match Ht ((a0.1, (a0.2.1, ())), a2, ()) with
 | none => none
 | some (y4, _) => match (ieq y3 y4) with
 | true => some (a0.1, a0.2.1, 5, ())
 | false => match Ht ((a0.1, (a0.2.1, ())), a1, ()) with
 | none => none
 | some (y5, _) => match Ht ((a0.1, (a0.2.1, ())), a2, ()) with
 | none => none
 | some (y6, _) => match idx a0.2.1 y5 with
 | none => none
 | some x7 => match O5 (x7, a1, ()) with
 | none => none
 | some (y8, y9, _) => match idx a0.2.1 y6 with
 | none => none
 | some x10 => match O5 (x10, a2, ()) with
 | none => none
 | some (y11, y12, _) => match ADT (a0.1, a1, a2, ()) with
 | none => none
 | some (y13, _) => match (fits ((AO ([a1, y13] : List (Int))) + (AO y11))) with
 | true => match ADT (a0.1, a2, a1, ()) with
  | none => none
  | some (y14, _) => match (fits ((AO (Aq ([a1, y13] : List (Int)) y11)) + (AO ([y14] : List (Int))))) with
  | true => match CM y8 1 (AO y8) with
   | none => none
   | some x15 => match (fits ((AO (Aq (Aq ([a1, y13] : List (Int)) y11) ([y14] : List (Int)))) + (AO (DU 1 (AJ (AO x15)) y8)))) with
   | true => match D8 (a0.2.1, (imax y5 y6), ()) with
    | none => none
    | some (y16, _) => match D8 (y16, (CF y5 y6), ()) with
    | none => none
    | some (y17, _) => match AGA (y17, (Aq (Aq (Aq ([a1, y13] : List (Int)) y11) ([y14] : List (Int))) (DU 1 (AJ (AO x15)) y8)), ()) with
    | none => none
    | some (y18, _) => some (a0.1, y18, 0, ())
   | false => none
  | false => none
 | false => none
def LZ [Lk] := fun v => Lk.f (HH v)
theorem I9 v : LZ v = HH v := AK _
abbrev Z9 : AE := [(.tmp 0, .dat Ul), (.tmp 1, .dat Ul)]
abbrev Z8 : AE := [(.tmp 0, .dat .bool)]
abbrev Z7 : List RS := [.one]
abbrev AFz : AE := [(.tmp 0, .dat Ul), (.tmp 1, .dat Ul), (.tmp 5, .di)]
abbrev AFy : Am := [(.ret, [(.tmp 4, .dat .bool)]), (.exit 0, [])]
def Sy [Lk] : (List U3 × List U3 × Int × Unit) → Option ((List U3 × List U3 × Int × Unit) ⊕ Uf ⊕ (Unit) ⊕ Unit) := fun (a0, a1, a2, _) =>
 match (ilt a2 (AO a0)) with
 | true => match idx a0 a2 with
  | none => none
  | some x0 => match idx a1 a2 with
  | none => none
  | some x1 => match (!(ieq x0.1 x1.1 && (ieq x0.2.1 x1.2.1 && true))) with
  | true => some (.inr (.inl (false, ())))
  | false => some (.inl (a0, a1, (IntKind.wrap .i64 (a2 + 1)), ()))
 | false => some (.inr (.inr (.inl ())))
def AAB [Lk] : (List U3 × List U3 × Unit) → Option (Uf) := fun (a0, a1, _) =>
 match (!(ieq (AO a0) (AO a1))) with
 | true => some (false, ())
 | false => match AT Sy many (a0, a1, 0, ()) with
 | none => none
 | some r => match r with
 | .inl (o0, _) => some (o0, ())
 | .inr r => match r with
 | .inl _ => some (true, ())
 | .inr _ => none
def AI4 [Lk] := fun v => Lk.f (AAB v)
theorem AYx v : AI4 v = AAB v := AK _
abbrev Abu : AE := [(.tmp 0, .dat U9), (.tmp 1, .di)]
abbrev Abt : AE := [(.tmp 0, .di)]
abbrev Abs : List RS := [.one]
def AWF [Lk] : V8 → Option (U8) := fun (a0, a1, _) =>
 match tin (a0.1, a1, ()) with
 | none => none
 | some (y0, _) => match (!y0) with
 | true => some ((-1 : Int), ())
 | false => match N9 ((a0.1, (a0.2.1, ())), ()) with
 | none => none
 | some (y1, _) => match (!y1) with
 | true => some ((-1 : Int), ())
 | false => match OB ((a0.1, (a0.2.1, ())), a1, ()) with
 | none => none
 | some (y2, _) => some (y2, ())
def tof [Lk] := fun v => Lk.f (AWF v)
theorem Abv v : tof v = AWF v := AK _
abbrev Sa : AE := [(.tmp 0, .dat U9), (.tmp 1, .dat Ul)]
abbrev SZ : AE := [(.tmp 0, .di)]
abbrev SY : List RS := [.one]
abbrev Yl : AE := [(.tmp 1, .dat Ul), (.tmp 2, .box 2), (.cell 0 0, .di), (.cell 0 1, .dat Ui), (.tmp 5, .di)]
abbrev Yk : Am := [(.ret, [(.tmp 4, .di)]), (.exit 0, [])]
def Dn [Lk] : (List U3 × Int × List U4 × Int × Unit) → Option ((List U3 × Int × List U4 × Int × Unit) ⊕ U8 ⊕ (Unit) ⊕ Unit) := fun (a0, a1, a2, a3, _) =>
 match (ilt a3 (AO a0)) with
 | true => match idx a0 a3 with
  | none => none
  | some x0 => match (ilt x0.1 0) with
  | true => some (.inr (.inl (10, ())))
  | false => match idx a0 a3 with
  | none => none
  | some x1 => match (ile a1 x1.1) with
  | true => some (.inr (.inl (10, ())))
  | false => match idx a0 a3 with
  | none => none
  | some x2 => match (ilt x2.2.1 0) with
  | true => some (.inr (.inl (10, ())))
  | false => match idx a0 a3 with
  | none => none
  | some x3 => match (ile a1 x3.2.1) with
  | true => some (.inr (.inl (10, ())))
  | false => some (.inl (a0, a1, a2, (IntKind.wrap .i64 (a3 + 1)), ()))
 | false => some (.inr (.inr (.inl ())))
def Mg [Lk] : Vh → Option (U8) := fun (a0, a1, _) =>
 match Mn ((a0.1, (a0.2.1, ())), ()) with
 | none => none
 | some (y0, _) => match (!y0) with
 | true => some (1, ())
 | false => match AT Dn many (a1, a0.1, a0.2.1, 0, ()) with
 | none => none
 | some r => match r with
 | .inl (o1, _) => some (o1, ())
 | .inr r => match r with
 | .inl _ => some (0, ())
 | .inr _ => none
def P1 [Lk] := fun v => Lk.f (Mg v)
theorem Ym v : P1 v = Mg v := AK _
abbrev Tu : AE := [(.tmp 0, .dat U9), (.tmp 1, .dat Ul)]
abbrev Tt : AE := [(.tmp 0, .dat U9), (.tmp 1, .own 4 .bool), (.tmp 2, .di)]
abbrev Ts : List RS := [.one, .one, .one]
abbrev ABt : AE := [(.tmp 1, .dat Ul), (.tmp 2, .box 2), (.cell 0 0, .di), (.cell 0 1, .dat Ui), (.tmp 4, .box 2), (.cell 1 0, .di), (.cell 1 1, .nil U6), (.tmp 8, .own 4 .bool), (.tmp 9, .di)]
abbrev ABs : Am := [(.exit 0, [(.tmp 2, .box 2), (.cell 0 0, .di), (.cell 0 1, .dat Ui), (.tmp 4, .box 2), (.cell 1 0, .di), (.cell 1 1, .nil U6), (.tmp 8, .own 4 .bool)])]
def Bs [Lk] : (List U3 × Int × List U4 × Int × List Bool × Int × Unit) → Option ((List U3 × Int × List U4 × Int × List Bool × Int × Unit) ⊕ (Int × List U4 × Int × List Bool × Unit) ⊕ Unit) := fun (a0, a1, a2, a3, a4, a5, _) =>
 match (ilt a5 (AO a0)) with
 | true => match idx a0 a5 with
  | none => none
  | some x0 => match idx a0 a5 with
  | none => none
  | some x1 => match LZ ((a1, (a2, ())), x0.1, x1.2.1, ()) with
  | none => none
  | some (y2, y3, y4, _) => match (fits ((AO a4) + (AO ([(ieq y4 0)] : List (Bool))))) with
  | true => some (.inl (a0, y2, y3, a3, (Aq a4 ([(ieq y4 0)] : List (Bool))), (IntKind.wrap .i64 (a5 + 1)), ()))
  | false => none
 | false => some (.inr (.inl (a1, a2, a3, a4, ())))
def I8 [Lk] : Vh → Option ((Ub × List Bool × Int × Unit)) := fun (a0, a1, _) =>
 match P1 ((a0.1, (a0.2.1, ())), a1, ()) with
 | none => none
 | some (y0, _) => match (!(ieq y0 0)) with
 | true => some ((a0.1, (a0.2.1, ())), ([] : List (Bool)), y0, ())
 | false => match AT Bs many (a1, a0.1, a0.2.1, 0, ([] : List (Bool)), 0, ()) with
 | none => none
 | some r => match r with
 | .inl (o1, o2, o3, o4, _) => some ((o1, (o2, ())), o4, 0, ())
 | .inr _ => none
def J3 [Lk] := fun v => Lk.f (I8 v)
theorem Om v : J3 v = I8 v := AK _
abbrev ATl : AE := [(.tmp 0, .di), (.tmp 1, .dat Ul)]
abbrev ATk : AE := [(.tmp 0, .dat U9), (.tmp 1, .di)]
abbrev ATj : List RS := [.one, .one]
def AJx [Lk] : V3 → Option (V8) := fun (a0, a1, _) =>
 match Tj (a0, ()) with
 | none => none
 | some (y0, y1, y2, _) => match (!(ieq y2 0)) with
 | true => some ((0, (([] : List U4), ())), y2, ())
 | false => match J3 ((y0, (y1, ())), a1, ()) with
 | none => none
 | some (y3, y4, y5, _) => match (!(ieq y5 0)) with
 | true => some ((0, (([] : List U4), ())), y5, ())
 | false => some ((y3.1, (y3.2.1, ())), 0, ())
def Ads [Lk] := fun v => Lk.f (AJx v)
theorem AWw v : Ads v = AJx v := AK _
abbrev PR : AE := [(.tmp 0, .dat U9), (.tmp 1, .dat Ul)]
abbrev PQ : AE := [(.tmp 0, .own 4 .bool), (.tmp 1, .di)]
abbrev PO : List RS := [.one, .one]
def KF [Lk] : Vh → Option ((List Bool × Int × Unit)) := fun (a0, a1, _) =>
 match J3 ((a0.1, (a0.2.1, ())), a1, ()) with
 | none => none
 | some (y0, y1, y2, _) => some (y1, y2, ())
def L6 [Lk] := fun v => Lk.f (KF v)
theorem Wj v : L6 v = KF v := AK _
abbrev ACn : AE := [(.tmp 0, .dat Ua), (.tmp 1, .di), (.tmp 2, .di)]
abbrev ACm : AE := [(.tmp 0, .di)]
abbrev ACl : List RS := [.one]
abbrev AGw : AE := [(.tmp 1, .di), (.tmp 2, .di), (.tmp 3, .box 2), (.cell 0 0, .di), (.cell 0 1, .dat Un), (.tmp 7, .di)]
abbrev AGv : Am := [(.ret, [(.tmp 6, .di)]), (.exit 0, [])]
def FJ [Lk] : (Int × Int × Int × List U1 × Int × Unit) → Option ((Int × Int × Int × List U1 × Int × Unit) ⊕ U8 ⊕ (Unit) ⊕ Unit) := fun (a0, a1, a2, a3, a4, _) =>
 match (ilt a4 (AO a3)) with
 | true => match idx a3 a4 with
  | none => none
  | some x0 => match (ieq x0.1 (CF a0 a1)) with
  | true => match idx a3 a4 with
   | none => none
   | some x1 => match (ieq x1.2.1 (imax a0 a1)) with
   | true => some (.inr (.inl (a4, ())))
   | false => some (.inl (a0, a1, a2, a3, (IntKind.wrap .i64 (a4 + 1)), ()))
  | false => some (.inl (a0, a1, a2, a3, (IntKind.wrap .i64 (a4 + 1)), ()))
 | false => some (.inr (.inr (.inl ())))
def Q8 [Lk] : (Uc × Int × Int × Unit) → Option (U8) := fun (a0, a1, a2, _) =>
 match Bg ((a0.1, (a0.2.1, ())), ()) with
 | none => none
 | some (y0, _) => match (!y0) with
 | true => some ((-1 : Int), ())
 | false => match AT FJ many (a1, a2, a0.1, a0.2.1, 0, ()) with
 | none => none
 | some r => match r with
 | .inl (o1, _) => some (o1, ())
 | .inr r => match r with
 | .inl _ => some ((-1 : Int), ())
 | .inr _ => none
def ACp [Lk] := fun v => Lk.f (Q8 v)
theorem AGx v : ACp v = Q8 v := AK _
abbrev SS : AE := [(.tmp 0, .dat Ua), (.tmp 1, .di)]
abbrev SQ : AE := [(.tmp 0, .own 42 U5)]
abbrev SO : List RS := [.one]
abbrev Ya : AE := [(.tmp 1, .di), (.tmp 2, .box 2), (.cell 0 0, .di), (.cell 0 1, .dat Un), (.tmp 5, .own 42 U5), (.tmp 6, .di)]
abbrev YZ : Am := [(.exit 0, [(.tmp 5, .own 42 U5)])]
def Br [Lk] : (Int × Int × List U1 × List U3 × Int × Unit) → Option ((Int × Int × List U1 × List U3 × Int × Unit) ⊕ Uz ⊕ Unit) := fun (a0, a1, a2, a3, a4, _) =>
 match (ilt a4 (AO a2)) with
 | true => match idx a2 a4 with
  | none => none
  | some x0 => match x0.2.2.2.1 with
  | true => match idx a2 a4 with
   | none => none
   | some x1 => match (ile a0 x1.2.2.1) with
   | true => match idx a2 a4 with
    | none => none
    | some x2 => match idx a2 a4 with
    | none => none
    | some x3 => match (fits ((AO a3) + (AO ([(x2.1, (x3.2.1, ()))] : List U3)))) with
    | true => some (.inl (a0, a1, a2, (Aq a3 ([(x2.1, (x3.2.1, ()))] : List U3)), (IntKind.wrap .i64 (a4 + 1)), ()))
    | false => none
   | false => some (.inl (a0, a1, a2, a3, (IntKind.wrap .i64 (a4 + 1)), ()))
  | false => some (.inl (a0, a1, a2, a3, (IntKind.wrap .i64 (a4 + 1)), ()))
 | false => some (.inr (.inl (a3, ())))
def Iw [Lk] : (Uc × Int × Unit) → Option (Uz) := fun (a0, a1, _) =>
 match AT Br many (a1, a0.1, a0.2.1, ([] : List U3), 0, ()) with
 | none => none
 | some r => match r with
 | .inl (o0, _) => some (o0, ())
 | .inr _ => none
def GR [Lk] := fun v => Lk.f (Iw v)
theorem OA v : GR v = Iw v := AK _
abbrev O8 : AE := [(.tmp 0, .dat Ua), (.tmp 1, .di)]
abbrev O7 : AE := [(.tmp 0, .dat U9), (.tmp 1, .di)]
abbrev O6 : List RS := [.one, .one]
def J7 [Lk] : (Uc × Int × Unit) → Option (V8) := fun (a0, a1, _) =>
 match Bg ((a0.1, (a0.2.1, ())), ()) with
 | none => none
 | some (y0, _) => match (!y0) with
 | true => some ((0, (([] : List U4), ())), 1, ())
 | false => match GR ((a0.1, (a0.2.1, ())), a1, ()) with
 | none => none
 | some (y1, _) => match Ads (a0.1, y1, ()) with
 | none => none
 | some (y2, y3, _) => some ((y2.1, (y2.2.1, ())), y3, ())
def Lm [Lk] := fun v => Lk.f (J7 v)
theorem WZ v : Lm v = J7 v := AK _
abbrev AKh : AE := [(.tmp 0, .dat Ul), (.tmp 1, .dat U5)]
abbrev AKg : AE := [(.tmp 0, .dat .bool)]
abbrev AKf : List RS := [.one]
abbrev APs : AE := [(.tmp 0, .dat Ul), (.tmp 3, .box 2), (.cell 0 0, .di), (.cell 0 1, .di), (.tmp 5, .di)]
abbrev APr : Am := [(.ret, [(.tmp 4, .dat .bool)]), (.exit 0, [])]
def HP [Lk] : (List U3 × Int × Int × Int × Unit) → Option ((List U3 × Int × Int × Int × Unit) ⊕ Uf ⊕ (Unit) ⊕ Unit) := fun (a0, a1, a2, a3, _) =>
 match (ilt a3 (AO a0)) with
 | true => match idx a0 a3 with
  | none => none
  | some x0 => match (ieq x0.1 a1 && (ieq x0.2.1 a2 && true)) with
  | true => some (.inr (.inl (true, ())))
  | false => some (.inl (a0, a1, a2, (IntKind.wrap .i64 (a3 + 1)), ()))
 | false => some (.inr (.inr (.inl ())))
def Xw [Lk] : (List U3 × U3 × Unit) → Option (Uf) := fun (a0, a1, _) =>
 match AT HP many (a0, a1.1, a1.2.1, 0, ()) with
 | none => none
 | some r => match r with
 | .inl (o0, _) => some (o0, ())
 | .inr r => match r with
 | .inl _ => some (false, ())
 | .inr _ => none
def WX [Lk] := fun v => Lk.f (Xw v)
theorem APt v : WX v = Xw v := AK _
end
end Go.Pev
end
section
namespace Go.Pev
set_option maxRecDepth 100000
noncomputable section
attribute [local irreducible] Nx J8 Oz Nn AeU AeV AeW QR AAe Zu Zt L0 AW many IntKind.wrap AO Ap AS Aq DG DU JK AJ CZ CF imax Ad Al
abbrev VB : AE := [(.tmp 0, .dat Ua), (.tmp 1, .dat Ul)]
abbrev VA : AE := [(.tmp 0, .di)]
abbrev UZ : List RS := [.one]
abbrev ADQ : AE := [(.tmp 1, .dat Ul), (.tmp 2, .box 2), (.cell 0 0, .di), (.cell 0 1, .dat Un), (.tmp 5, .di)]
abbrev ADP : Am := [(.ret, [(.tmp 4, .di)]), (.exit 0, [])]
def D4 [Lk] : V7 → Option (V7 ⊕ U8 ⊕ (Unit) ⊕ Unit) := fun (a0, a1, a2, a3, _) =>
 match (ilt a3 (AO a0)) with
 | true => match idx a0 a3 with
  | none => none
  | some x0 => match (ilt x0.1 0) with
  | true => some (.inr (.inl (10, ())))
  | false => match idx a0 a3 with
  | none => none
  | some x1 => match (ile a1 x1.1) with
  | true => some (.inr (.inl (10, ())))
  | false => match idx a0 a3 with
  | none => none
  | some x2 => match (ilt x2.2.1 0) with
  | true => some (.inr (.inl (10, ())))
  | false => match idx a0 a3 with
  | none => none
  | some x3 => match (ile a1 x3.2.1) with
  | true => some (.inr (.inl (10, ())))
  | false => some (.inl (a0, a1, a2, (IntKind.wrap .i64 (a3 + 1)), ()))
 | false => some (.inr (.inr (.inl ())))
def NK [Lk] : Va → Option (U8) := fun (a0, a1, _) =>
 match Bg ((a0.1, (a0.2.1, ())), ()) with
 | none => none
 | some (y0, _) => match (!y0) with
 | true => some (1, ())
 | false => match AT D4 many (a1, a0.1, a0.2.1, 0, ()) with
 | none => none
 | some r => match r with
 | .inl (o1, _) => some (o1, ())
 | .inr r => match r with
 | .inl _ => some (0, ())
 | .inr _ => none
def RZ [Lk] := fun v => Lk.f (NK v)
theorem ADR v : RZ v = NK v := AK _
abbrev TE : AE := [(.tmp 0, .di), (.tmp 1, .dat Ul)]
abbrev TD : AE := [(.tmp 0, .own 42 U5)]
abbrev TC : List RS := [.one]
abbrev AAm : AE := [(.tmp 0, .di), (.tmp 1, .dat Ul), (.tmp 5, .own 42 U5), (.tmp 6, .di), (.tmp 7, .di)]
abbrev AAk : Am := [(.exit 2, [(.tmp 0, .di), (.tmp 1, .dat Ul), (.tmp 5, .own 42 U5), (.tmp 6, .di)])]
def C5 [Lk] : (Int × List U3 × List U3 × Int × Int × Unit) → Option ((Int × List U3 × List U3 × Int × Int × Unit) ⊕ Vj ⊕ Unit) := fun (a0, a1, a2, a3, a4, _) =>
 match (ilt a4 a0) with
 | true => match WX (a1, (a3, (a4, ())), ()) with
  | none => none
  | some (y0, _) => match y0 with
  | true => match (fits ((AO a2) + (AO ([(a3, (a4, ()))] : List U3)))) with
   | true => some (.inl (a0, a1, (Aq a2 ([(a3, (a4, ()))] : List U3)), a3, (IntKind.wrap .i64 (a4 + 1)), ()))
   | false => none
  | false => match WX (a1, (a4, (a3, ())), ()) with
  | none => none
  | some (y1, _) => match y1 with
  | true => match (fits ((AO a2) + (AO ([(a3, (a4, ()))] : List U3)))) with
   | true => some (.inl (a0, a1, (Aq a2 ([(a3, (a4, ()))] : List U3)), a3, (IntKind.wrap .i64 (a4 + 1)), ()))
   | false => none
  | false => some (.inl (a0, a1, a2, a3, (IntKind.wrap .i64 (a4 + 1)), ()))
 | false => some (.inr (.inl (a0, a1, a2, a3, ())))
abbrev AAn : AE := [(.tmp 0, .di), (.tmp 1, .dat Ul), (.tmp 5, .own 42 U5), (.tmp 6, .di)]
abbrev AAl : Am := [(.exit 0, [(.tmp 5, .own 42 U5)])]
def Ds [Lk] : Vj → Option (Vj ⊕ Uz ⊕ Unit) := fun (a0, a1, a2, a3, _) =>
 match (ilt a3 a0) with
 | true => match AT C5 many (a0, a1, a2, a3, (IntKind.wrap .i64 (a3 + 1)), ()) with
  | none => none
  | some r => match r with
  | .inl (o0, o1, o2, o3, _) => some (.inl (o0, o1, o2, (IntKind.wrap .i64 (o3 + 1)), ()))
  | .inr _ => none
 | false => some (.inr (.inl (a2, ())))
def Mr [Lk] : V3 → Option (Uz) := fun (a0, a1, _) =>
 match AT Ds many (a0, a1, ([] : List U3), 0, ()) with
 | none => none
 | some r => match r with
 | .inl (o0, _) => some (o0, ())
 | .inr _ => none
def Ms [Lk] := fun v => Lk.f (Mr v)
theorem AAo v : Ms v = Mr v := AK _
abbrev AJ3 : AE := [(.tmp 0, .dat Ua), (.tmp 1, .dat Ul)]
abbrev AJ2 : AE := [(.tmp 0, .own 42 U5), (.tmp 1, .di)]
abbrev AJ1 : List RS := [.one, .one]
abbrev APA : AE := [(.tmp 7, .own 42 U5), (.tmp 8, .own 42 U5), (.tmp 9, .own 42 U5), (.tmp 10, .di)]
abbrev AO9 : Am := [(.exit 0, [(.tmp 9, .own 42 U5)])]
def HE [Lk] : V6 → Option (V6 ⊕ Uz ⊕ Unit) := fun (a0, a1, a2, a3, _) =>
 match (ilt a3 (AO a1)) with
 | true => match idx a1 a3 with
  | none => none
  | some x0 => match WX (a0, ((AS a1 (AJ a3) (0, (0, ()))).1, ((AS a1 (AJ a3) (0, (0, ()))).2.1, ())), ()) with
  | none => none
  | some (y1, _) => match (!y1) with
  | true => match idx a1 a3 with
   | none => none
   | some x2 => match (fits ((AO a2) + (AO ([((AS a1 (AJ a3) (0, (0, ()))).1, ((AS a1 (AJ a3) (0, (0, ()))).2.1, ()))] : List U3)))) with
   | true => some (.inl (a0, a1, (Aq a2 ([((AS a1 (AJ a3) (0, (0, ()))).1, ((AS a1 (AJ a3) (0, (0, ()))).2.1, ()))] : List U3)), (IntKind.wrap .i64 (a3 + 1)), ()))
   | false => none
  | false => some (.inl (a0, a1, a2, (IntKind.wrap .i64 (a3 + 1)), ()))
 | false => some (.inr (.inl (a2, ())))
def Xr [Lk] : Va → Option ((List U3 × Int × Unit)) := fun (a0, a1, _) =>
 match RZ ((a0.1, (a0.2.1, ())), a1, ()) with
 | none => none
 | some (y0, _) => match (!(ieq y0 0)) with
 | true => some (([] : List U3), y0, ())
 | false => match KB ((a0.1, (a0.2.1, ())), ()) with
 | none => none
 | some (y1, _) => match Ms (a0.1, a1, ()) with
 | none => none
 | some (y2, _) => match AT HE many (y1, y2, ([] : List U3), 0, ()) with
 | none => none
 | some r => match r with
 | .inl (o3, _) => some (o3, 0, ())
 | .inr _ => none
def AGJ [Lk] := fun v => Lk.f (Xr v)
theorem APB v : AGJ v = Xr v := AK _
abbrev ACj : AE := [(.tmp 0, .dat Ua), (.tmp 1, .dat Ul)]
abbrev ACi : AE := [(.tmp 0, .dat .bool)]
abbrev ACh : List RS := [.one]
def Q7 [Lk] : Va → Option (Uf) := fun (a0, a1, _) =>
 match AGJ ((a0.1, (a0.2.1, ())), a1, ()) with
 | none => none
 | some (y0, y1, _) => match (ieq y1 0) with
 | true => some ((ile (IntKind.wrap .i64 ((AO y0) + (AO a0.2.1))) 400), ())
 | false => some (false, ())
def ACk [Lk] := fun v => Lk.f (Q7 v)
theorem AGu v : ACk v = Q7 v := AK _
abbrev AJM : AE := [(.tmp 0, .dat Un), (.tmp 1, .dat U0)]
abbrev AJL : AE := [(.tmp 0, .own 44 U0)]
abbrev AJK : List RS := [.one]
abbrev ANz : AE := [(.tmp 0, .dat Un), (.tmp 3, .box 4), (.cell 0 0, .di), (.cell 0 1, .di), (.cell 0 2, .di), (.cell 0 3, .dat .bool), (.tmp 5, .di)]
abbrev ANy : Am := [(.exit 0, [(.tmp 0, .dat Un), (.tmp 3, .box 4), (.cell 0 0, .di), (.cell 0 1, .di), (.cell 0 2, .di), (.cell 0 3, .dat .bool), (.tmp 5, .di)])]
def HA [Lk] : Vb → Option (Vb ⊕ Vb ⊕ Unit) := fun (a0, a1, a2, a3, a4, a5, _) =>
 match (ilt a5 (AO a0)) with
 | true => match idx a0 a5 with
  | none => none
  | some x0 => match (ilt x0.1 a1) with
  | true => some (.inl (a0, a1, a2, a3, a4, (IntKind.wrap .i64 (a5 + 1)), ()))
  | false => match idx a0 a5 with
  | none => none
  | some x1 => match (ieq x1.1 a1) with
  | true => match idx a0 a5 with
   | none => none
   | some x2 => match (ilt x2.2.1 a2) with
   | true => some (.inl (a0, a1, a2, a3, a4, (IntKind.wrap .i64 (a5 + 1)), ()))
   | false => some (.inr (.inl (a0, a1, a2, a3, a4, a5, ())))
  | false => some (.inr (.inl (a0, a1, a2, a3, a4, a5, ())))
 | false => some (.inr (.inl (a0, a1, a2, a3, a4, a5, ())))
def Xl [Lk] : (List U1 × U1 × Unit) → Option (Uq) := fun (a0, a1, _) =>
 match AT HA many (a0, a1.1, a1.2.1, a1.2.2.1, a1.2.2.2.1, 0, ()) with
 | none => none
 | some r => match r with
 | .inl (o0, o1, o2, o3, o4, o5, _) => match CM o0 0 o5 with
  | none => none
  | some x6 => match (fits ((AO ([] : List U1)) + (AO x6))) with
  | true => match (fits ((AO (Aq ([] : List U1) x6)) + (AO ([(o1, (o2, (o3, (o4, ()))))] : List U1)))) with
   | true => match CM o0 o5 (AO o0) with
    | none => none
    | some x7 => match (fits ((AO (Aq (Aq ([] : List U1) x6) ([(o1, (o2, (o3, (o4, ()))))] : List U1))) + (AO x7))) with
    | true => some ((Aq (Aq (Aq ([] : List U1) x6) ([(o1, (o2, (o3, (o4, ()))))] : List U1)) x7), ())
    | false => none
   | false => none
  | false => none
 | .inr _ => none
def AN1 [Lk] := fun v => Lk.f (Xl v)
theorem AN0 v : AN1 v = Xl v := AK _
abbrev ALp : AE := [(.tmp 0, .dat Ua), (.tmp 1, .dat Ul)]
abbrev ALo : AE := [(.tmp 0, .di), (.tmp 1, .dat Un), (.tmp 2, .di), (.tmp 3, .di)]
abbrev ALn : List RS := [.agg 2, .one, .one]
abbrev AQx : AE := [(.tmp 4, .box 2), (.cell 0 0, .di), (.cell 0 1, .nil U0), (.tmp 7, .own 42 U5), (.tmp 11, .own 4 .bool), (.tmp 13, .box 2), (.cell 3 0, .di), (.cell 3 1, .own 44 U0), (.tmp 14, .di)]
abbrev AQw : Am := [(.exit 0, [(.tmp 4, .box 2), (.cell 0 0, .di), (.cell 0 1, .nil U0), (.tmp 7, .own 42 U5), (.tmp 13, .box 2), (.cell 2 0, .di), (.cell 2 1, .own 44 U0)])]
def F4 [Lk] : (Int × List U3 × List Bool × Int × List U1 × Int × Unit) → Option ((Int × List U3 × List Bool × Int × List U1 × Int × Unit) ⊕ (Int × List U3 × Int × List U1 × Unit) ⊕ Unit) := fun (a0, a1, a2, a3, a4, a5, _) =>
 match (ilt a5 (AO a1)) with
 | true => match idx a1 a5 with
  | none => none
  | some x0 => match idx a1 a5 with
  | none => none
  | some x1 => match idx a2 a5 with
  | none => none
  | some x2 => match AN1 (a4, ((AS a1 (AJ a5) (0, (0, ()))).1, ((AS a1 (AJ a5) (0, (0, ()))).2.1, (0, ((AS a2 (AJ a5) false), ())))), ()) with
  | none => none
  | some (y3, _) => some (.inl (a0, a1, a2, a3, y3, (IntKind.wrap .i64 (a5 + 1)), ()))
 | false => some (.inr (.inl (a0, a1, a3, a4, ())))
def X5 [Lk] : Va → Option (Ut) := fun (a0, a1, _) =>
 match AGJ ((a0.1, (a0.2.1, ())), a1, ()) with
 | none => none
 | some (y0, y1, _) => match (!(ieq y1 0)) with
 | true => some (a0.1, a0.2.1, 0, y1, ())
 | false => match ACk ((a0.1, (a0.2.1, ())), a1, ()) with
 | none => none
 | some (y2, _) => match (!y2) with
 | true => some (a0.1, a0.2.1, 0, 2, ())
 | false => match Lm ((a0.1, (a0.2.1, ())), 0, ()) with
 | none => none
 | some (y3, y4, _) => match L6 ((y3.1, (y3.2.1, ())), y0, ()) with
 | none => none
 | some (y5, y6, _) => match (fits ((AO ([] : List U1)) + (AO a0.2.1))) with
 | true => match AT F4 many (0, y0, y5, a0.1, (Aq ([] : List U1) a0.2.1), 0, ()) with
  | none => none
  | some r => match r with
  | .inl (o7, o8, o9, o10, _) => some (o9, o10, (AO o8), 0, ())
  | .inr _ => none
 | false => none
def AHD [Lk] := fun v => Lk.f (X5 v)
theorem AQz v : AHD v = X5 v := AK _
abbrev T1 : AE := [(.tmp 0, .dat Ua), (.tmp 1, .di)]
abbrev Tz : AE := [(.tmp 0, .dat U9), (.tmp 1, .di)]
abbrev Tx : List RS := [.one, .one]
def JA [Lk] : (Uc × Int × Unit) → Option (V8) := fun (a0, a1, _) =>
 match EV ((a0.1, (a0.2.1, ())), ()) with
 | none => none
 | some (y0, _) => match (!y0) with
 | true => some ((0, (([] : List U4), ())), 1, ())
 | false => match Ol ((a0.1, (a0.2.1, ())), a1, ()) with
 | none => none
 | some (y1, _) => match fof (a0.1, y1, ()) with
 | none => none
 | some (y2, y3, _) => some ((y2.1, (y2.2.1, ())), y3, ())
def J4 [Lk] := fun v => Lk.f (JA v)
theorem On v : J4 v = JA v := AK _
abbrev Zy : AE := [(.tmp 0, .di), (.tmp 1, .dat Ul)]
abbrev Zx : AE := [(.tmp 0, .di), (.tmp 1, .di)]
abbrev Zw : List RS := [.one, .one]
abbrev AFt : AE := [(.tmp 7, .di), (.tmp 8, .di), (.tmp 17, .own 3 U2), (.tmp 18, .di), (.tmp 19, .di)]
abbrev AFs : Am := [(.exit 0, [(.tmp 7, .di), (.tmp 8, .di)])]
def Er [Lk] : (Int × Int × List Int × Int × Int × Unit) → Option ((Int × Int × List Int × Int × Int × Unit) ⊕ U3 ⊕ Unit) := fun (a0, a1, a2, a3, a4, _) =>
 match (ilt a4 a3) with
 | true => match idx a2 a4 with
  | none => none
  | some x0 => match (ieq (AS a2 (AJ a4) 0) a4) with
  | true => some (.inl (a0, (IntKind.wrap .i64 (a1 + 1)), a2, a3, (IntKind.wrap .i64 (a4 + 1)), ()))
  | false => some (.inl (a0, a1, a2, a3, (IntKind.wrap .i64 (a4 + 1)), ()))
 | false => some (.inr (.inl (a0, a1, ())))
def QI [Lk] : V3 → Option (U3) := fun (a0, a1, _) =>
 match LD (a0, a1, ()) with
 | none => none
 | some (y0, y1, _) => match AT Er many (y1, 0, y0, (AO y0), 0, ()) with
 | none => none
 | some r => match r with
 | .inl (o2, o3, _) => some (o3, o2, ())
 | .inr _ => none
def Z0 [Lk] := fun v => Lk.f (QI v)
theorem AFu v : Z0 v = QI v := AK _
abbrev AK3 : AE := [(.tmp 0, .dat U9), (.tmp 1, .di), (.tmp 2, .di)]
abbrev AK2 : AE := [(.tmp 0, .dat .bool), (.tmp 1, .di)]
abbrev AK1 : List RS := [.one, .one]
def X0 [Lk] : (Ub × Int × Int × Unit) → Option ((Bool × Int × Unit)) := fun (a0, a1, a2, _) =>
 match Ij ((a0.1, (a0.2.1, ())), ([a1, a2] : List (Int)), ()) with
 | none => none
 | some (y0, _) => match (!(ieq y0 0)) with
 | true => some (false, y0, ())
 | false => match tof ((a0.1, (a0.2.1, ())), a1, ()) with
 | none => none
 | some (y1, _) => match tof ((a0.1, (a0.2.1, ())), a2, ()) with
 | none => none
 | some (y2, _) => some ((ieq y1 y2), 0, ())
def AQC [Lk] := fun v => Lk.f (X0 v)
theorem AQB v : AQC v = X0 v := AK _
abbrev AKu : AE := [(.tmp 0, .dat U9), (.tmp 1, .di)]
abbrev AKt : AE := [(.tmp 0, .di), (.tmp 1, .di)]
abbrev AKs : List RS := [.one, .one]
def Xz [Lk] : V8 → Option (U3) := fun (a0, a1, _) =>
 match Ij ((a0.1, (a0.2.1, ())), ([a1] : List (Int)), ()) with
 | none => none
 | some (y0, _) => match (!(ieq y0 0)) with
 | true => some (0, y0, ())
 | false => match tof ((a0.1, (a0.2.1, ())), a1, ()) with
 | none => none
 | some (y1, _) => match idx a0.2.1 y1 with
 | none => none
 | some x2 => match quo? .i64 (IntKind.wrap .i64 ((AO x2) + 2)) 3 with
 | none => none
 | some x3 => some (x3, 0, ())
def AP3 [Lk] := fun v => Lk.f (Xz v)
theorem AP2 v : AP3 v = Xz v := AK _
abbrev Ss : AE := [(.tmp 0, .dat U0), (.tmp 1, .dat U0)]
abbrev Sr : AE := [(.tmp 0, .di)]
abbrev Sq : List RS := [.one]
def Su [Lk] : (U1 × U1 × Unit) → Option (U8) := fun (a0, a1, _) =>
 match Fz (a1.2.2.1, a0.2.2.1, ()) with
 | none => none
 | some (y0, _) => some (y0, ())
def FY [Lk] := fun v => Lk.f (Su v)
theorem AR6 v : FY v = Su v := AK _
abbrev AUW : AE := [(.tmp 0, .own 44 U0), (.tmp 1, .di), (.tmp 2, .di), (.tmp 3, .clo 73 [])]
abbrev AUV : AE := [(.obj 0, .own 44 U0)]
abbrev AUU : List RS := []
abbrev AW7 : AE := [(.obj 0, .own 44 U0), (.tmp 0, .own' 0), (.tmp 1, .di), (.tmp 2, .di), (.tmp 3, .clo 73 []), (.tmp 8, .di), (.tmp 9, .di)]
abbrev AW5 : Am := [(.exit 2, [(.obj 0, .own 44 U0), (.tmp 0, .own' 0), (.tmp 1, .di), (.tmp 2, .di), (.tmp 3, .clo 73 []), (.tmp 8, .di)])]
def AW3 [Lk] : Up → Option (Up ⊕ Ud ⊕ Unit) := NB ((0, (0, (0, (false, ())))) : U1) FY
abbrev AW8 : AE := [(.obj 0, .own 44 U0), (.tmp 0, .own' 0), (.tmp 1, .di), (.tmp 2, .di), (.tmp 3, .clo 73 []), (.tmp 8, .di)]
abbrev AW6 : Am := [(.exit 0, [(.obj 0, .own 44 U0)])]
def AW4 [Lk] : Ud → Option (Ud ⊕ Uq ⊕ Unit) := NC ((0, (0, (0, (false, ())))) : U1) FY
def AeI [Lk] : Us → Option (Uq) := ACE ((0, (0, (0, (false, ())))) : U1) FY
def AeJ [Lk] (v : Us) : Option (Uq) := AeO ((0, (0, (0, (false, ())))) : U1) FY v
theorem Agy v : AeJ v = AeI v := AK _
abbrev AH9 : AE := [(.tmp 0, .own 44 U0), (.tmp 1, .di), (.tmp 2, .di), (.tmp 3, .di), (.tmp 4, .clo 73 [])]
abbrev AH8 : AE := [(.obj 0, .own 44 U0)]
abbrev AH7 : List RS := []
abbrev AMt : AE := [(.obj 0, .own 44 U0), (.tmp 0, .own' 0), (.tmp 1, .di), (.tmp 2, .di), (.tmp 3, .di), (.tmp 10, .di)]
abbrev AMs : Am := [(.exit 0, [(.obj 0, .own 44 U0)])]
def Yq [Lk] : Up → Option (Up ⊕ Uq ⊕ Unit) := fun (a0, a1, a2, a3, a4, _) =>
 match (ilt a4 a3) with
 | true => match idx a0 (IntKind.wrap .i64 (a2 + a4)) with
  | none => none
  | some x0 => match idx a0 (IntKind.wrap .i64 (a1 + a4)) with
  | none => none
  | some x1 => match idx a0 (IntKind.wrap .i64 (a1 + a4)) with
  | none => none
  | some x2 => match idx (Ap a0 (AJ (IntKind.wrap .i64 (a1 + a4))) ((AS a0 (AJ (IntKind.wrap .i64 (a2 + a4))) (0, (0, (0, (false, ()))))).1, ((AS a0 (AJ (IntKind.wrap .i64 (a2 + a4))) (0, (0, (0, (false, ()))))).2.1, ((AS a0 (AJ (IntKind.wrap .i64 (a2 + a4))) (0, (0, (0, (false, ()))))).2.2.1, ((AS a0 (AJ (IntKind.wrap .i64 (a2 + a4))) (0, (0, (0, (false, ()))))).2.2.2.1, ()))))) (IntKind.wrap .i64 (a2 + a4)) with
  | none => none
  | some x3 => some (.inl ((Ap (Ap a0 (AJ (IntKind.wrap .i64 (a1 + a4))) ((AS a0 (AJ (IntKind.wrap .i64 (a2 + a4))) (0, (0, (0, (false, ()))))).1, ((AS a0 (AJ (IntKind.wrap .i64 (a2 + a4))) (0, (0, (0, (false, ()))))).2.1, ((AS a0 (AJ (IntKind.wrap .i64 (a2 + a4))) (0, (0, (0, (false, ()))))).2.2.1, ((AS a0 (AJ (IntKind.wrap .i64 (a2 + a4))) (0, (0, (0, (false, ()))))).2.2.2.1, ()))))) (AJ (IntKind.wrap .i64 (a2 + a4))) ((AS a0 (AJ (IntKind.wrap .i64 (a1 + a4))) (0, (0, (0, (false, ()))))).1, ((AS a0 (AJ (IntKind.wrap .i64 (a1 + a4))) (0, (0, (0, (false, ()))))).2.1, ((AS a0 (AJ (IntKind.wrap .i64 (a1 + a4))) (0, (0, (0, (false, ()))))).2.2.1, ((AS a0 (AJ (IntKind.wrap .i64 (a1 + a4))) (0, (0, (0, (false, ()))))).2.2.2.1, ()))))), a1, a2, a3, (IntKind.wrap .i64 (a4 + 1)), ()))
 | false => some (.inr (.inl (a0, ())))
def AIB [Lk] : Ud → Option (Uq) := fun (a0, a1, a2, a3, _) =>
 match AT Yq many (a0, a1, a2, a3, 0, ()) with
 | none => none
 | some r => match r with
 | .inl (o0, _) => some (o0, ())
 | .inr _ => none
def AFb [Lk] := fun v => Lk.f (AIB v)
theorem AcD v : AFb v = AIB v := AK _
abbrev ASW : AE := [(.tmp 0, .own 44 U0), (.tmp 1, .di), (.tmp 2, .di), (.tmp 3, .di), (.tmp 4, .clo 73 [])]
abbrev ASV : AE := [(.obj 0, .own 44 U0)]
abbrev ASU : List RS := []
abbrev AWb : AE := [(.obj 0, .own 44 U0), (.tmp 0, .own' 0), (.tmp 2, .di), (.tmp 4, .clo 73 []), (.tmp 10, .di), (.tmp 11, .di)]
abbrev AWa : Am := [(.exit 0, [(.obj 0, .own 44 U0), (.tmp 0, .own' 0), (.tmp 2, .di), (.tmp 4, .clo 73 []), (.tmp 10, .di)])]
def AI6 [Lk] : Ud → Option (Ud ⊕ Us ⊕ Unit) := fun (a0, a1, a2, a3, _) =>
 match (!(ieq a2 a3)) with
 | true => match (ilt a3 a2) with
  | true => match AFb (a0, (IntKind.wrap .i64 (a1 - a2)), a1, a3, ()) with
   | none => none
   | some (y0, _) => some (.inl (y0, a1, (IntKind.wrap .i64 (a2 - a3)), a3, ()))
  | false => match AFb (a0, (IntKind.wrap .i64 (a1 - a2)), (IntKind.wrap .i64 ((IntKind.wrap .i64 (a1 + a3)) - a2)), a2, ()) with
  | none => none
  | some (y1, _) => some (.inl (y1, a1, a2, (IntKind.wrap .i64 (a3 - a2)), ()))
 | false => some (.inr (.inl (a0, a1, a2, ())))
def ASY [Lk] : Ud → Option (Uq) := fun (a0, a1, a2, a3, _) =>
 match AT AI6 many (a0, a2, (IntKind.wrap .i64 (a2 - a1)), (IntKind.wrap .i64 (a3 - a2)), ()) with
 | none => none
 | some r => match r with
 | .inl (o0, o1, o2, _) => match AFb (o0, (IntKind.wrap .i64 (o1 - o2)), o1, o2, ()) with
  | none => none
  | some (y3, _) => some (y3, ())
 | .inr _ => none
def Acz [Lk] := fun v => Lk.f (ASY v)
theorem AgM v : Acz v = ASY v := AK _
abbrev Yp : AE := [(.tmp 0, .own 44 U0), (.tmp 1, .di), (.tmp 2, .di), (.tmp 3, .di), (.tmp 4, .clo 73 [])]
abbrev Yo : AE := [(.obj 0, .own 44 U0)]
abbrev Yn : List RS := []
abbrev AWO : AE := [(.obj 0, .own 44 U0), (.tmp 0, .own' 0), (.tmp 1, .di), (.tmp 2, .di), (.tmp 3, .di), (.tmp 4, .clo 73 []), (.tmp 18, .di), (.tmp 19, .di), (.tmp 20, .di), (.tmp 21, .di), (.tmp 22, .di)]
abbrev AWJ : Am := [(.exit 8, [(.obj 0, .own 44 U0), (.tmp 0, .own' 0), (.tmp 1, .di), (.tmp 2, .di), (.tmp 3, .di), (.tmp 4, .clo 73 []), (.tmp 18, .di), (.tmp 19, .di), (.tmp 20, .di)])]
def Xd [Lk] (self : Ud → Option (Uq)) : (List U1 × Int × Int × Int × Int × Int × Int × Int × Int × Unit) → Option ((List U1 × Int × Int × Int × Int × Int × Int × Int × Int × Unit) ⊕ (List U1 × Int × Int × Int × Int × Int × Int × Unit) ⊕ Unit) := fun (a0, a1, a2, a3, a4, a5, a6, a7, a8, _) =>
 match (ilt a6 a7) with
 | true => match shr? .u64 (IntKind.wrap .u64 (IntKind.wrap .i64 (a6 + a7))) 1 with
  | none => none
  | some x0 => match idx a0 (IntKind.wrap .i64 (a8 - (IntKind.wrap .i64 x0))) with
  | none => none
  | some x1 => match idx a0 (IntKind.wrap .i64 x0) with
  | none => none
  | some x2 => match FY (((AS a0 (AJ (IntKind.wrap .i64 (a8 - (IntKind.wrap .i64 x0)))) (0, (0, (0, (false, ()))))).1, ((AS a0 (AJ (IntKind.wrap .i64 (a8 - (IntKind.wrap .i64 x0)))) (0, (0, (0, (false, ()))))).2.1, ((AS a0 (AJ (IntKind.wrap .i64 (a8 - (IntKind.wrap .i64 x0)))) (0, (0, (0, (false, ()))))).2.2.1, ((AS a0 (AJ (IntKind.wrap .i64 (a8 - (IntKind.wrap .i64 x0)))) (0, (0, (0, (false, ()))))).2.2.2.1, ())))), ((AS a0 (AJ (IntKind.wrap .i64 x0)) (0, (0, (0, (false, ()))))).1, ((AS a0 (AJ (IntKind.wrap .i64 x0)) (0, (0, (0, (false, ()))))).2.1, ((AS a0 (AJ (IntKind.wrap .i64 x0)) (0, (0, (0, (false, ()))))).2.2.1, ((AS a0 (AJ (IntKind.wrap .i64 x0)) (0, (0, (0, (false, ()))))).2.2.2.1, ())))), ()) with
  | none => none
  | some (y3, _) => match (!(ilt y3 0)) with
  | true => some (.inl (a0, a1, a2, a3, a4, a5, (IntKind.wrap .i64 ((IntKind.wrap .i64 x0) + 1)), a7, a8, ()))
  | false => some (.inl (a0, a1, a2, a3, a4, a5, a6, (IntKind.wrap .i64 x0), a8, ()))
 | false => some (.inr (.inl (a0, a1, a2, a3, a4, a5, a6, ())))
abbrev AWP : AE := [(.obj 0, .own 44 U0), (.tmp 0, .own' 0), (.tmp 14, .di), (.tmp 17, .di)]
abbrev AWK : Am := [(.exit 6, [(.obj 0, .own 44 U0)])]
def AH3 [Lk] (self : Ud → Option (Uq)) : Us → Option (Us ⊕ Uq ⊕ Unit) := fun (a0, a1, a2, _) =>
 match (ilt a1 a2) with
 | true => match idx a0 (IntKind.wrap .i64 (a2 - 1)) with
  | none => none
  | some x0 => match idx a0 a2 with
  | none => none
  | some x1 => match idx a0 a2 with
  | none => none
  | some x2 => match idx (Ap a0 (AJ a2) ((AS a0 (AJ (IntKind.wrap .i64 (a2 - 1))) (0, (0, (0, (false, ()))))).1, ((AS a0 (AJ (IntKind.wrap .i64 (a2 - 1))) (0, (0, (0, (false, ()))))).2.1, ((AS a0 (AJ (IntKind.wrap .i64 (a2 - 1))) (0, (0, (0, (false, ()))))).2.2.1, ((AS a0 (AJ (IntKind.wrap .i64 (a2 - 1))) (0, (0, (0, (false, ()))))).2.2.2.1, ()))))) (IntKind.wrap .i64 (a2 - 1)) with
  | none => none
  | some x3 => some (.inl ((Ap (Ap a0 (AJ a2) ((AS a0 (AJ (IntKind.wrap .i64 (a2 - 1))) (0, (0, (0, (false, ()))))).1, ((AS a0 (AJ (IntKind.wrap .i64 (a2 - 1))) (0, (0, (0, (false, ()))))).2.1, ((AS a0 (AJ (IntKind.wrap .i64 (a2 - 1))) (0, (0, (0, (false, ()))))).2.2.1, ((AS a0 (AJ (IntKind.wrap .i64 (a2 - 1))) (0, (0, (0, (false, ()))))).2.2.2.1, ()))))) (AJ (IntKind.wrap .i64 (a2 - 1))) ((AS a0 (AJ a2) (0, (0, (0, (false, ()))))).1, ((AS a0 (AJ a2) (0, (0, (0, (false, ()))))).2.1, ((AS a0 (AJ a2) (0, (0, (0, (false, ()))))).2.2.1, ((AS a0 (AJ a2) (0, (0, (0, (false, ()))))).2.2.2.1, ()))))), a1, (IntKind.wrap .i64 (a2 - 1)), ()))
 | false => some (.inr (.inl (a0, ())))
abbrev AWQ : AE := [(.obj 0, .own 44 U0), (.tmp 0, .own' 0), (.tmp 2, .di), (.tmp 4, .clo 73 []), (.tmp 14, .di), (.tmp 15, .di)]
abbrev AWL : Am := [(.exit 4, [(.obj 0, .own 44 U0), (.tmp 0, .own' 0), (.tmp 2, .di), (.tmp 14, .di)])]
def AH4 [Lk] (self : Ud → Option (Uq)) : Ud → Option (Ud ⊕ Us ⊕ Unit) := fun (a0, a1, a2, a3, _) =>
 match (ilt a2 a3) with
 | true => match shr? .u64 (IntKind.wrap .u64 (IntKind.wrap .i64 (a2 + a3))) 1 with
  | none => none
  | some x0 => match idx a0 a1 with
  | none => none
  | some x1 => match idx a0 (IntKind.wrap .i64 x0) with
  | none => none
  | some x2 => match FY (((AS a0 (AJ a1) (0, (0, (0, (false, ()))))).1, ((AS a0 (AJ a1) (0, (0, (0, (false, ()))))).2.1, ((AS a0 (AJ a1) (0, (0, (0, (false, ()))))).2.2.1, ((AS a0 (AJ a1) (0, (0, (0, (false, ()))))).2.2.2.1, ())))), ((AS a0 (AJ (IntKind.wrap .i64 x0)) (0, (0, (0, (false, ()))))).1, ((AS a0 (AJ (IntKind.wrap .i64 x0)) (0, (0, (0, (false, ()))))).2.1, ((AS a0 (AJ (IntKind.wrap .i64 x0)) (0, (0, (0, (false, ()))))).2.2.1, ((AS a0 (AJ (IntKind.wrap .i64 x0)) (0, (0, (0, (false, ()))))).2.2.2.1, ())))), ()) with
  | none => none
  | some (y3, _) => match (!(ilt y3 0)) with
  | true => some (.inl (a0, a1, (IntKind.wrap .i64 ((IntKind.wrap .i64 x0) + 1)), a3, ()))
  | false => some (.inl (a0, a1, a2, (IntKind.wrap .i64 x0), ()))
 | false => some (.inr (.inl (a0, a1, a2, ())))
abbrev AWR : AE := [(.obj 0, .own 44 U0), (.tmp 0, .own' 0), (.tmp 10, .di), (.tmp 13, .di)]
abbrev AWM : Am := [(.exit 2, [(.obj 0, .own 44 U0)])]
def AH5 [Lk] (self : Ud → Option (Uq)) : Us → Option (Us ⊕ Uq ⊕ Unit) := fun (a0, a1, a2, _) =>
 match (ilt a2 (IntKind.wrap .i64 (a1 - 1))) with
 | true => match idx a0 (IntKind.wrap .i64 (a2 + 1)) with
  | none => none
  | some x0 => match idx a0 a2 with
  | none => none
  | some x1 => match idx a0 a2 with
  | none => none
  | some x2 => match idx (Ap a0 (AJ a2) ((AS a0 (AJ (IntKind.wrap .i64 (a2 + 1))) (0, (0, (0, (false, ()))))).1, ((AS a0 (AJ (IntKind.wrap .i64 (a2 + 1))) (0, (0, (0, (false, ()))))).2.1, ((AS a0 (AJ (IntKind.wrap .i64 (a2 + 1))) (0, (0, (0, (false, ()))))).2.2.1, ((AS a0 (AJ (IntKind.wrap .i64 (a2 + 1))) (0, (0, (0, (false, ()))))).2.2.2.1, ()))))) (IntKind.wrap .i64 (a2 + 1)) with
  | none => none
  | some x3 => some (.inl ((Ap (Ap a0 (AJ a2) ((AS a0 (AJ (IntKind.wrap .i64 (a2 + 1))) (0, (0, (0, (false, ()))))).1, ((AS a0 (AJ (IntKind.wrap .i64 (a2 + 1))) (0, (0, (0, (false, ()))))).2.1, ((AS a0 (AJ (IntKind.wrap .i64 (a2 + 1))) (0, (0, (0, (false, ()))))).2.2.1, ((AS a0 (AJ (IntKind.wrap .i64 (a2 + 1))) (0, (0, (0, (false, ()))))).2.2.2.1, ()))))) (AJ (IntKind.wrap .i64 (a2 + 1))) ((AS a0 (AJ a2) (0, (0, (0, (false, ()))))).1, ((AS a0 (AJ a2) (0, (0, (0, (false, ()))))).2.1, ((AS a0 (AJ a2) (0, (0, (0, (false, ()))))).2.2.1, ((AS a0 (AJ a2) (0, (0, (0, (false, ()))))).2.2.2.1, ()))))), a1, (IntKind.wrap .i64 (a2 + 1)), ()))
 | false => some (.inr (.inl (a0, ())))
abbrev AWS : AE := [(.obj 0, .own 44 U0), (.tmp 0, .own' 0), (.tmp 1, .di), (.tmp 4, .clo 73 []), (.tmp 10, .di), (.tmp 11, .di)]
abbrev AWN : Am := [(.exit 0, [(.obj 0, .own 44 U0), (.tmp 0, .own' 0), (.tmp 1, .di), (.tmp 10, .di)])]
def AH6 [Lk] (self : Ud → Option (Uq)) : Ud → Option (Ud ⊕ Us ⊕ Unit) := fun (a0, a1, a2, a3, _) =>
 match (ilt a2 a3) with
 | true => match shr? .u64 (IntKind.wrap .u64 (IntKind.wrap .i64 (a2 + a3))) 1 with
  | none => none
  | some x0 => match idx a0 (IntKind.wrap .i64 x0) with
  | none => none
  | some x1 => match idx a0 a1 with
  | none => none
  | some x2 => match FY (((AS a0 (AJ (IntKind.wrap .i64 x0)) (0, (0, (0, (false, ()))))).1, ((AS a0 (AJ (IntKind.wrap .i64 x0)) (0, (0, (0, (false, ()))))).2.1, ((AS a0 (AJ (IntKind.wrap .i64 x0)) (0, (0, (0, (false, ()))))).2.2.1, ((AS a0 (AJ (IntKind.wrap .i64 x0)) (0, (0, (0, (false, ()))))).2.2.2.1, ())))), ((AS a0 (AJ a1) (0, (0, (0, (false, ()))))).1, ((AS a0 (AJ a1) (0, (0, (0, (false, ()))))).2.1, ((AS a0 (AJ a1) (0, (0, (0, (false, ()))))).2.2.1, ((AS a0 (AJ a1) (0, (0, (0, (false, ()))))).2.2.2.1, ())))), ()) with
  | none => none
  | some (y3, _) => match (ilt y3 0) with
  | true => some (.inl (a0, a1, (IntKind.wrap .i64 ((IntKind.wrap .i64 x0) + 1)), a3, ()))
  | false => some (.inl (a0, a1, a2, (IntKind.wrap .i64 x0), ()))
 | false => some (.inr (.inl (a0, a1, a2, ())))
def Ab9 [Lk] (self : Ud → Option (Uq)) : Ud → Option (Uq) := fun (a0, a1, a2, a3, _) =>
 match (ieq (IntKind.wrap .i64 (a2 - a1)) 1) with
 | true => match AT (AH6 self) many (a0, a1, a2, a3, ()) with
  | none => none
  | some r => match r with
  | .inl (o0, o1, o2, _) => match AT (AH5 self) many (o0, o2, o1, ()) with
   | none => none
   | some r => match r with
   | .inl (o3, _) => some (o3, ())
   | .inr _ => none
  | .inr _ => none
 | false => match (ieq (IntKind.wrap .i64 (a3 - a2)) 1) with
 | true => match AT (AH4 self) many (a0, a2, a1, a2, ()) with
  | none => none
  | some r => match r with
  | .inl (o4, o5, o6, _) => match AT (AH3 self) many (o4, o6, o5, ()) with
   | none => none
   | some r => match r with
   | .inl (o7, _) => some (o7, ())
   | .inr _ => none
  | .inr _ => none
 | false => match shr? .u64 (IntKind.wrap .u64 (IntKind.wrap .i64 (a1 + a3))) 1 with
 | none => none
 | some x8 => match (ilt (IntKind.wrap .i64 x8) a2) with
 | true => match AT (Xd self) many (a0, a1, a2, a3, (IntKind.wrap .i64 x8), (IntKind.wrap .i64 ((IntKind.wrap .i64 x8) + a2)), (IntKind.wrap .i64 ((IntKind.wrap .i64 ((IntKind.wrap .i64 x8) + a2)) - a3)), (IntKind.wrap .i64 x8), (IntKind.wrap .i64 ((IntKind.wrap .i64 ((IntKind.wrap .i64 x8) + a2)) - 1)), ()) with
  | none => none
  | some r => match r with
  | .inl (o9, o10, o11, o12, o13, o14, o15, _) => match (ilt o15 o11) with
   | true => match (ilt o11 (IntKind.wrap .i64 (o14 - o15))) with
    | true => match Acz (o9, o15, o11, (IntKind.wrap .i64 (o14 - o15)), ()) with
     | none => none
     | some (y16, _) => match (ilt o10 o15) with
     | true => match (ilt o15 o13) with
      | true => match self (y16, o10, o15, o13, ()) with
       | none => none
       | some (y17, _) => match (ilt o13 (IntKind.wrap .i64 (o14 - o15))) with
       | true => match (ilt (IntKind.wrap .i64 (o14 - o15)) o12) with
        | true => match self (y17, o13, (IntKind.wrap .i64 (o14 - o15)), o12, ()) with
         | none => none
         | some (y18, _) => some (y18, ())
        | false => some (y17, ())
       | false => some (y17, ())
      | false => match (ilt o13 (IntKind.wrap .i64 (o14 - o15))) with
      | true => match (ilt (IntKind.wrap .i64 (o14 - o15)) o12) with
       | true => match self (y16, o13, (IntKind.wrap .i64 (o14 - o15)), o12, ()) with
        | none => none
        | some (y19, _) => some (y19, ())
       | false => some (y16, ())
      | false => some (y16, ())
     | false => match (ilt o13 (IntKind.wrap .i64 (o14 - o15))) with
     | true => match (ilt (IntKind.wrap .i64 (o14 - o15)) o12) with
      | true => match self (y16, o13, (IntKind.wrap .i64 (o14 - o15)), o12, ()) with
       | none => none
       | some (y20, _) => some (y20, ())
      | false => some (y16, ())
     | false => some (y16, ())
    | false => match (ilt o10 o15) with
    | true => match (ilt o15 o13) with
     | true => match self (o9, o10, o15, o13, ()) with
      | none => none
      | some (y21, _) => match (ilt o13 (IntKind.wrap .i64 (o14 - o15))) with
      | true => match (ilt (IntKind.wrap .i64 (o14 - o15)) o12) with
       | true => match self (y21, o13, (IntKind.wrap .i64 (o14 - o15)), o12, ()) with
        | none => none
        | some (y22, _) => some (y22, ())
       | false => some (y21, ())
      | false => some (y21, ())
     | false => match (ilt o13 (IntKind.wrap .i64 (o14 - o15))) with
     | true => match (ilt (IntKind.wrap .i64 (o14 - o15)) o12) with
      | true => match self (o9, o13, (IntKind.wrap .i64 (o14 - o15)), o12, ()) with
       | none => none
       | some (y23, _) => some (y23, ())
      | false => some (o9, ())
     | false => some (o9, ())
    | false => match (ilt o13 (IntKind.wrap .i64 (o14 - o15))) with
    | true => match (ilt (IntKind.wrap .i64 (o14 - o15)) o12) with
     | true => match self (o9, o13, (IntKind.wrap .i64 (o14 - o15)), o12, ()) with
      | none => none
      | some (y24, _) => some (y24, ())
     | false => some (o9, ())
    | false => some (o9, ())
   | false => match (ilt o10 o15) with
   | true => match (ilt o15 o13) with
    | true => match self (o9, o10, o15, o13, ()) with
     | none => none
     | some (y25, _) => match (ilt o13 (IntKind.wrap .i64 (o14 - o15))) with
     | true => match (ilt (IntKind.wrap .i64 (o14 - o15)) o12) with
      | true => match self (y25, o13, (IntKind.wrap .i64 (o14 - o15)), o12, ()) with
       | none => none
       | some (y26, _) => some (y26, ())
      | false => some (y25, ())
     | false => some (y25, ())
    | false => match (ilt o13 (IntKind.wrap .i64 (o14 - o15))) with
    | true => match (ilt (IntKind.wrap .i64 (o14 - o15)) o12) with
     | true => match self (o9, o13, (IntKind.wrap .i64 (o14 - o15)), o12, ()) with
      | none => none
      | some (y27, _) => some (y27, ())
     | false => some (o9, ())
    | false => some (o9, ())
   | false => match (ilt o13 (IntKind.wrap .i64 (o14 - o15))) with
   | true => match (ilt (IntKind.wrap .i64 (o14 - o15)) o12) with
    | true => match self (o9, o13, (IntKind.wrap .i64 (o14 - o15)), o12, ()) with
     | none => none
     | some (y28, _) => some (y28, ())
    | false => some (o9, ())
   | false => some (o9, ())
  | .inr _ => none
 | false => match AT (Xd self) many (a0, a1, a2, a3, (IntKind.wrap .i64 x8), (IntKind.wrap .i64 ((IntKind.wrap .i64 x8) + a2)), a1, a2, (IntKind.wrap .i64 ((IntKind.wrap .i64 ((IntKind.wrap .i64 x8) + a2)) - 1)), ()) with
 | none => none
 | some r => match r with
 | .inl (o29, o30, o31, o32, o33, o34, o35, _) => match (ilt o35 o31) with
  | true => match (ilt o31 (IntKind.wrap .i64 (o34 - o35))) with
   | true => match Acz (o29, o35, o31, (IntKind.wrap .i64 (o34 - o35)), ()) with
    | none => none
    | some (y36, _) => match (ilt o30 o35) with
    | true => match (ilt o35 o33) with
     | true => match self (y36, o30, o35, o33, ()) with
      | none => none
      | some (y37, _) => match (ilt o33 (IntKind.wrap .i64 (o34 - o35))) with
      | true => match (ilt (IntKind.wrap .i64 (o34 - o35)) o32) with
       | true => match self (y37, o33, (IntKind.wrap .i64 (o34 - o35)), o32, ()) with
        | none => none
        | some (y38, _) => some (y38, ())
       | false => some (y37, ())
      | false => some (y37, ())
     | false => match (ilt o33 (IntKind.wrap .i64 (o34 - o35))) with
     | true => match (ilt (IntKind.wrap .i64 (o34 - o35)) o32) with
      | true => match self (y36, o33, (IntKind.wrap .i64 (o34 - o35)), o32, ()) with
       | none => none
       | some (y39, _) => some (y39, ())
      | false => some (y36, ())
     | false => some (y36, ())
    | false => match (ilt o33 (IntKind.wrap .i64 (o34 - o35))) with
    | true => match (ilt (IntKind.wrap .i64 (o34 - o35)) o32) with
     | true => match self (y36, o33, (IntKind.wrap .i64 (o34 - o35)), o32, ()) with
      | none => none
      | some (y40, _) => some (y40, ())
     | false => some (y36, ())
    | false => some (y36, ())
   | false => match (ilt o30 o35) with
   | true => match (ilt o35 o33) with
    | true => match self (o29, o30, o35, o33, ()) with
     | none => none
     | some (y41, _) => match (ilt o33 (IntKind.wrap .i64 (o34 - o35))) with
     | true => match (ilt (IntKind.wrap .i64 (o34 - o35)) o32) with
      | true => match self (y41, o33, (IntKind.wrap .i64 (o34 - o35)), o32, ()) with
       | none => none
       | some (y42, _) => some (y42, ())
      | false => some (y41, ())
     | false => some (y41, ())
    | false => match (ilt o33 (IntKind.wrap .i64 (o34 - o35))) with
    | true => match (ilt (IntKind.wrap .i64 (o34 - o35)) o32) with
     | true => match self (o29, o33, (IntKind.wrap .i64 (o34 - o35)), o32, ()) with
      | none => none
      | some (y43, _) => some (y43, ())
     | false => some (o29, ())
    | false => some (o29, ())
   | false => match (ilt o33 (IntKind.wrap .i64 (o34 - o35))) with
   | true => match (ilt (IntKind.wrap .i64 (o34 - o35)) o32) with
    | true => match self (o29, o33, (IntKind.wrap .i64 (o34 - o35)), o32, ()) with
     | none => none
     | some (y44, _) => some (y44, ())
    | false => some (o29, ())
   | false => some (o29, ())
  | false => match (ilt o30 o35) with
  | true => match (ilt o35 o33) with
   | true => match self (o29, o30, o35, o33, ()) with
    | none => none
    | some (y45, _) => match (ilt o33 (IntKind.wrap .i64 (o34 - o35))) with
    | true => match (ilt (IntKind.wrap .i64 (o34 - o35)) o32) with
     | true => match self (y45, o33, (IntKind.wrap .i64 (o34 - o35)), o32, ()) with
      | none => none
      | some (y46, _) => some (y46, ())
     | false => some (y45, ())
    | false => some (y45, ())
   | false => match (ilt o33 (IntKind.wrap .i64 (o34 - o35))) with
   | true => match (ilt (IntKind.wrap .i64 (o34 - o35)) o32) with
    | true => match self (o29, o33, (IntKind.wrap .i64 (o34 - o35)), o32, ()) with
     | none => none
     | some (y47, _) => some (y47, ())
    | false => some (o29, ())
   | false => some (o29, ())
  | false => match (ilt o33 (IntKind.wrap .i64 (o34 - o35))) with
  | true => match (ilt (IntKind.wrap .i64 (o34 - o35)) o32) with
   | true => match self (o29, o33, (IntKind.wrap .i64 (o34 - o35)), o32, ()) with
    | none => none
    | some (y48, _) => some (y48, ())
   | false => some (o29, ())
  | false => some (o29, ())
 | .inr _ => none
def OC [Lk] : Nat → Ud → Option (Uq)
 | 0, _ => none
 | n + 1, v => Ab9 (OC n) v
def AYJ [Lk] := fun v => Lk.f (OC 100 v)
theorem Af5 v : AYJ v = OC 100 v := AK _
end
end Go.Pev
end
section
namespace Go.Pev
set_option maxRecDepth 100000
noncomputable section
attribute [local irreducible] Nx J8 Oz Nn AeU AeV AeW QR AAe Zu Zt L0 AW many IntKind.wrap AO Ap AS Aq DG DU JK AJ CZ CF imax Ad Al
abbrev AII : AE := [(.tmp 0, .own 44 U0), (.tmp 1, .di), (.tmp 2, .clo 73 [])]
abbrev AIH : AE := [(.obj 0, .own 44 U0)]
abbrev AIF : List RS := []
abbrev AM0 : AE := [(.obj 0, .own 44 U0), (.tmp 0, .own' 0), (.tmp 1, .di), (.tmp 2, .clo 73 []), (.tmp 6, .di), (.tmp 7, .di), (.tmp 8, .di)]
abbrev AMx : Am := [(.exit 4, [(.obj 0, .own 44 U0), (.tmp 0, .own' 0), (.tmp 1, .di), (.tmp 2, .clo 73 []), (.tmp 6, .di), (.tmp 7, .di)])]
def Yt [Lk] : Up → Option (Up ⊕ Ud ⊕ Unit) := fun (a0, a1, a2, a3, a4, _) =>
 match (ile a4 a1) with
 | true => match AYJ (a0, a3, (IntKind.wrap .i64 (a3 + a2)), a4, ()) with
  | none => none
  | some (y0, _) => some (.inl (y0, a1, a2, a4, (IntKind.wrap .i64 (a4 + (IntKind.wrap .i64 (2 * a2)))), ()))
 | false => some (.inr (.inl (a0, a1, a2, a3, ())))
abbrev AM1 : AE := [(.obj 0, .own 44 U0), (.tmp 0, .own' 0), (.tmp 1, .di), (.tmp 2, .clo 73 []), (.tmp 6, .di)]
abbrev AMy : Am := [(.exit 2, [(.obj 0, .own 44 U0)])]
def Yu [Lk] : Us → Option (Us ⊕ Uq ⊕ Unit) := fun (a0, a1, a2, _) =>
 match (ilt a2 a1) with
 | true => match AT Yt many (a0, a1, a2, 0, (IntKind.wrap .i64 (2 * a2)), ()) with
  | none => none
  | some r => match r with
  | .inl (o0, o1, o2, o3, _) => match (ilt (IntKind.wrap .i64 (o3 + o2)) o1) with
   | true => match AYJ (o0, o3, (IntKind.wrap .i64 (o3 + o2)), o1, ()) with
    | none => none
    | some (y4, _) => some (.inl (y4, o1, (IntKind.wrap .i64 (o2 * 2)), ()))
   | false => some (.inl (o0, o1, (IntKind.wrap .i64 (o2 * 2)), ()))
  | .inr _ => none
 | false => some (.inr (.inl (a0, ())))
abbrev AM2 : AE := [(.obj 0, .own 44 U0), (.tmp 0, .own' 0), (.tmp 1, .di), (.tmp 2, .clo 73 []), (.tmp 6, .di), (.tmp 7, .di), (.tmp 8, .di)]
abbrev AMz : Am := [(.exit 0, [(.obj 0, .own 44 U0), (.tmp 0, .own' 0), (.tmp 1, .di), (.tmp 2, .clo 73 []), (.tmp 6, .di), (.tmp 7, .di)])]
def Yv [Lk] : Up → Option (Up ⊕ Ud ⊕ Unit) := fun (a0, a1, a2, a3, a4, _) =>
 match (ile a4 a1) with
 | true => match AeJ (a0, a3, a4, ()) with
  | none => none
  | some (y0, _) => some (.inl (y0, a1, a2, a4, (IntKind.wrap .i64 (a4 + a2)), ()))
 | false => some (.inr (.inl (a0, a1, a2, a3, ())))
def AIJ [Lk] : (List U1 × Int × Unit) → Option (Uq) := fun (a0, a1, _) =>
 match AT Yv many (a0, a1, 20, 0, 20, ()) with
 | none => none
 | some r => match r with
 | .inl (o0, o1, o2, o3, _) => match AeJ (o0, o3, o1, ()) with
  | none => none
  | some (y4, _) => match AT Yu many (y4, o1, o2, ()) with
  | none => none
  | some r => match r with
  | .inl (o5, _) => some (o5, ())
  | .inr _ => none
 | .inr _ => none
def AWV [Lk] := fun v => Lk.f (AIJ v)
theorem AcK v : AWV v = AIJ v := AK _
abbrev ZJ : AE := [(.tmp 0, .own 44 U0), (.tmp 1, .clo 73 [])]
abbrev ZI : AE := [(.obj 0, .own 44 U0)]
abbrev ZH : List RS := []
def ZK [Lk] : Uq → Option (Uq) := fun (a0, _) =>
 match AWV (a0, (AO a0), ()) with
 | none => none
 | some (y0, _) => some (y0, ())
def AIP [Lk] := fun v => Lk.f (ZK v)
theorem AYS v : AIP v = ZK v := AK _
abbrev Yy : AE := [(.tmp 0, .di), (.tmp 1, .dat Ul)]
abbrev Yx : AE := [(.tmp 0, .own 42 U5), (.tmp 1, .di)]
abbrev Yw : List RS := [.one, .one]
abbrev AFe : AE := [(.tmp 1, .dat Ul), (.tmp 7, .own 42 U5), (.tmp 19, .own 4 .bool), (.tmp 20, .di), (.tmp 21, .di)]
abbrev AFd : Am := [(.exit 0, [(.tmp 7, .own 42 U5)])]
def Sc [Lk] : (List U3 × List U3 × List Bool × Int × Int × Unit) → Option ((List U3 × List U3 × List Bool × Int × Int × Unit) ⊕ Uz ⊕ Unit) := fun (a0, a1, a2, a3, a4, _) =>
 match (ilt a4 a3) with
 | true => match idx a2 a4 with
  | none => none
  | some x0 => match (AS a2 (AJ a4) false) with
  | true => match idx a0 a4 with
   | none => none
   | some x1 => match (fits ((AO a1) + (AO ([(x1.1, (x1.2.1, ()))] : List U3)))) with
   | true => some (.inl (a0, (Aq a1 ([(x1.1, (x1.2.1, ()))] : List U3)), a2, a3, (IntKind.wrap .i64 (a4 + 1)), ()))
   | false => none
  | false => some (.inl (a0, a1, a2, a3, (IntKind.wrap .i64 (a4 + 1)), ()))
 | false => some (.inr (.inl (a1, ())))
def Y0 [Lk] : V3 → Option ((List U3 × Int × Unit)) := fun (a0, a1, _) =>
 match Sx (a0, a1, ()) with
 | none => none
 | some (y0, _) => match (!(ieq y0 0)) with
 | true => some (([] : List U3), y0, ())
 | false => match S0 (a0, ()) with
 | none => none
 | some (y1, _) => match Sv (y1, a1, ()) with
 | none => none
 | some (y2, y3, _) => match AT Sc many (a1, ([] : List U3), y3, (AO y3), 0, ()) with
 | none => none
 | some r => match r with
 | .inl (o4, _) => some (o4, 0, ())
 | .inr _ => none
def AIL [Lk] := fun v => Lk.f (Y0 v)
theorem AYQ v : AIL v = Y0 v := AK _
abbrev ZX : AE := [(.tmp 0, .dat Ua)]
abbrev ZW : AE := [(.tmp 0, .dat .bool)]
abbrev ZV : List RS := [.one]
def Ky [Lk] : V4 → Option (Uf) := fun (a0, _) =>
 match J4 ((a0.1, (a0.2.1, ())), 0, ()) with
 | none => none
 | some (y0, y1, _) => match (!(ieq y1 0)) with
 | true => some (false, ())
 | false => match AB2 ((a0.1, (a0.2.1, ())), ()) with
 | none => none
 | some (y2, _) => match Z0 (a0.1, y2, ()) with
 | none => none
 | some (y3, y4, _) => some ((ieq (AO y0.2.1) y3), ())
def Kz [Lk] := fun v => Lk.f (Ky v)
theorem Si v : Kz v = Ky v := AK _
abbrev K8 : AE := [(.tmp 0, .dat Ua)]
abbrev K7 : AE := [(.tmp 0, .own 52 U9)]
abbrev K6 : List RS := [.one]
abbrev QC : AE := [(.tmp 1, .box 2), (.cell 0 0, .di), (.cell 0 1, .dat Un), (.tmp 3, .own 52 U9), (.tmp 4, .di)]
abbrev QB : Am := [(.ret, [(.tmp 2, .nil U9)]), (.exit 0, [(.tmp 3, .own 52 U9)])]
def CO [Lk] : (Int × List U1 × List Ub × Int × Unit) → Option ((Int × List U1 × List Ub × Int × Unit) ⊕ (Unit) ⊕ (List Ub × Unit) ⊕ Unit) := fun (a0, a1, a2, a3, _) =>
 match AEq (a0, ()) with
 | none => none
 | some (y0, _) => match (ile a3 y0) with
 | true => match J4 ((a0, (a1, ())), a3, ()) with
  | none => none
  | some (y1, y2, _) => match (!(ieq y2 0)) with
  | true => some (.inr (.inl ()))
  | false => match (fits ((AO a2) + (AO ([(y1.1, (y1.2.1, ()))] : List Ub)))) with
  | true => some (.inl (a0, a1, (Aq a2 ([(y1.1, (y1.2.1, ()))] : List Ub)), (IntKind.wrap .i64 (a3 + 1)), ()))
  | false => none
 | false => some (.inr (.inr (.inl (a2, ()))))
def Hq [Lk] : V4 → Option ((List Ub × Unit)) := fun (a0, _) =>
 match AT CO many (a0.1, a0.2.1, ([] : List Ub), 0, ()) with
 | none => none
 | some r => match r with
 | .inl _ => some (([] : List Ub), ())
 | .inr r => match r with
 | .inl (o0, _) => some (o0, ())
 | .inr _ => none
def Gp [Lk] := fun v => Lk.f (Hq v)
theorem QD v : Gp v = Hq v := AK _
abbrev Ih : AE := [(.tmp 0, .dat Un), (.cap 1 0, .box 1), (.cell 0 0, .dat (.slice U9)), (.tmp 1, .clo 81 [(0, 0)])]
abbrev Ig : AE := [(.obj 0, .box 1), (.cell 0 0, .dat (.slice U9)), (.tmp 0, .di)]
abbrev Ie : List RS := [.one]
abbrev Ld : AE := [(.obj 0, .box 1), (.cell 0 0, .dat (.slice U9)), (.tmp 0, .dat Un), (.tmp 1, .clo 81 [(0, 0)]), (.tmp 7, .di), (.tmp 8, .di)]
abbrev Lc : Am := [(.ret, [(.obj 0, .box 1), (.cell 0 0, .dat (.slice U9)), (.tmp 4, .di)]), (.exit 0, [(.obj 0, .box 1), (.cell 0 0, .dat (.slice U9))])]
def Bt [Lk] : (List Ub × List U1 × Int × Int × Unit) → Option ((List Ub × List U1 × Int × Int × Unit) ⊕ (List Ub × Int × Unit) ⊕ (List Ub × Unit) ⊕ Unit) := fun (a0, a1, a2, a3, _) =>
 match (ilt a3 a2) with
 | true => match idx a1 a3 with
  | none => none
  | some x0 => match idx a0 x0.2.2.1 with
  | none => none
  | some x1 => match AQC ((x1.1, (x1.2.1, ())), x0.1, x0.2.1, ()) with
  | none => none
  | some (y2, y3, _) => match (!x0.2.2.2.1) with
  | true => match (!y2) with
   | true => some (.inr (.inl (a0, a3, ())))
   | false => some (.inl (a0, a1, a2, (IntKind.wrap .i64 (a3 + 1)), ()))
  | false => some (.inl (a0, a1, a2, (IntKind.wrap .i64 (a3 + 1)), ()))
 | false => some (.inr (.inr (.inl (a0, ()))))
def Fe [Lk] : (List U1 × List Ub × Unit) → Option ((List Ub × Int × Unit)) := fun (a0, a1, _) =>
 match AT Bt many (a1, a0, (AO a0), 0, ()) with
 | none => none
 | some r => match r with
 | .inl (o0, o1, _) => some (o0, o1, ())
 | .inr r => match r with
 | .inl (o2, _) => some (o2, (-1 : Int), ())
 | .inr _ => none
def H0 [Lk] := fun v => Lk.f (Fe v)
theorem Le v : H0 v = Fe v := AK _
abbrev HW : AE := [(.tmp 0, .dat Un), (.cap 1 0, .box 1), (.cell 0 0, .dat (.slice U9)), (.tmp 1, .clo 81 [(0, 0)])]
abbrev HV : AE := [(.obj 0, .box 1), (.cell 0 0, .dat (.slice U9)), (.tmp 0, .dat .bool)]
abbrev HU : List RS := [.one]
def Ec [Lk] : (List U1 × List Ub × Unit) → Option ((List Ub × Bool × Unit)) := fun (a0, a1, _) =>
 match H0 (a0, a1, ()) with
 | none => none
 | some (y0, y1, _) => some (y0, (ile 0 y1), ())
def Gd [Lk] := fun v => Lk.f (Ec v)
theorem Kk v : Gd v = Ec v := AK _
abbrev So : AE := [(.tmp 0, .dat Ua)]
abbrev Sn : AE := [(.tmp 0, .dat .bool)]
abbrev Sm : List RS := [.one]
def Mj [Lk] : V4 → Option (Uf) := fun (a0, _) =>
 match Gp ((a0.1, (a0.2.1, ())), ()) with
 | none => none
 | some (y0, _) => match (ieq (AO y0) 0) with
 | true => some (false, ())
 | false => match Gd (a0.2.1, y0, ()) with
 | none => none
 | some (y1, y2, _) => some ((!y2), ())
def Mk [Lk] := fun v => Lk.f (Mj v)
theorem ZY v : Mk v = Mj v := AK _
abbrev K5 : AE := [(.tmp 0, .dat Ua)]
abbrev K4 : AE := [(.tmp 0, .dat .bool)]
abbrev K0 : List RS := [.one]
abbrev P8 : AE := [(.tmp 1, .box 2), (.cell 0 0, .di), (.cell 0 1, .dat Un), (.tmp 3, .own 52 U9), (.tmp 4, .di), (.tmp 5, .box 2), (.cell 2 0, .di), (.cell 2 1, .dat Ui), (.tmp 11, .own' 1), (.tmp 12, .di), (.tmp 13, .di), (.tmp 19, .di), (.tmp 20, .di)]
abbrev P6 : Am := [(.ret, [(.tmp 2, .dat .bool)]), (.exit 2, [(.tmp 1, .box 2), (.cell 0 0, .di), (.cell 0 1, .dat Un), (.tmp 3, .own 52 U9), (.tmp 11, .own' 1), (.tmp 12, .di), (.tmp 13, .di)])]
def Bx [Lk] : Vg → Option (Vg ⊕ Uf ⊕ Vc ⊕ Unit) := fun (a0, a1, a2, a3, a4, a5, a6, a7, a8, a9, _) =>
 match (ilt a9 a8) with
 | true => match AP3 ((a4, (a5, ())), a9, ()) with
  | none => none
  | some (y0, y1, _) => match shr? .i64 a0 (IntKind.wrap .u64 a3) with
  | none => none
  | some x2 => match (ilt (imax 1 x2) y0) with
  | true => some (.inr (.inl (false, ())))
  | false => some (.inl (a0, a1, a2, a3, a4, a5, a6, a7, a8, (IntKind.wrap .i64 (a9 + 1)), ()))
 | false => some (.inr (.inr (.inl (a0, a1, a2, a6, a7, ()))))
abbrev P9 : AE := [(.tmp 1, .box 2), (.cell 0 0, .di), (.cell 0 1, .dat Un), (.tmp 3, .own 52 U9), (.tmp 11, .own' 1), (.tmp 12, .di), (.tmp 13, .di)]
abbrev P7 : Am := [(.ret, [(.tmp 2, .dat .bool)]), (.exit 0, [(.tmp 3, .own 52 U9)])]
def CN [Lk] : Vc → Option (Vc ⊕ Uf ⊕ (List Ub × Unit) ⊕ Unit) := fun (a0, a1, a2, a3, a4, _) =>
 match (ilt a4 a3) with
 | true => match idx a2 a4 with
  | none => none
  | some x0 => match AT Bx many (a0, a1, a2, a4, (AS a2 (AJ a4) (0, (([] : List U4), ()))).1, (AS a2 (AJ a4) (0, (([] : List U4), ()))).2.1, a3, a4, a0, 0, ()) with
  | none => none
  | some r => match r with
  | .inl (o1, _) => some (.inr (.inl (o1, ())))
  | .inr r => match r with
  | .inl (o2, o3, o4, o5, o6, _) => some (.inl (o2, o3, o4, o5, (IntKind.wrap .i64 (o6 + 1)), ()))
  | .inr _ => none
 | false => some (.inr (.inr (.inl (a2, ()))))
def Hp [Lk] : V4 → Option (Uf) := fun (a0, _) =>
 match Gp ((a0.1, (a0.2.1, ())), ()) with
 | none => none
 | some (y0, _) => match AT CN many (a0.1, a0.2.1, y0, (AO y0), 0, ()) with
 | none => none
 | some r => match r with
 | .inl (o1, _) => some (o1, ())
 | .inr r => match r with
 | .inl (o2, _) => some ((ilt 0 (AO o2)), ())
 | .inr _ => none
def Ep [Lk] := fun v => Lk.f (Hp v)
theorem QA v : Ep v = Hp v := AK _
abbrev Sl : AE := [(.tmp 0, .dat Ua)]
abbrev Sk : AE := [(.tmp 0, .dat .bool)]
abbrev Sj : List RS := [.one]
def Iy [Lk] : V4 → Option (Uf) := fun (a0, _) =>
 match Kz ((a0.1, (a0.2.1, ())), ()) with
 | none => none
 | some (y0, _) => match y0 with
 | true => match Mk ((a0.1, (a0.2.1, ())), ()) with
  | none => none
  | some (y1, _) => match y1 with
  | true => match Ep ((a0.1, (a0.2.1, ())), ()) with
   | none => none
   | some (y2, _) => some (y2, ())
  | false => some (false, ())
 | false => some (false, ())
def GV [Lk] := fun v => Lk.f (Iy v)
theorem OM v : GV v = Iy v := AK _
abbrev ZS : AE := [(.tmp 0, .dat Ua), (.tmp 1, .clo 85 [])]
abbrev ZR : AE := [(.tmp 0, .di)]
abbrev ZQ : List RS := [.one]
abbrev AFi : AE := [(.tmp 1, .clo 85 []), (.tmp 4, .di), (.tmp 11, .dat Un), (.tmp 12, .di), (.tmp 13, .di)]
abbrev AFh : Am := [(.exit 0, [(.tmp 4, .di)])]
def Sh [Lk] : Ut → Option (Ut ⊕ U8 ⊕ Unit) := fun (a0, a1, a2, a3, _) =>
 match (ilt a3 a2) with
 | true => match idx a1 a3 with
  | none => none
  | some x0 => some (.inl ((IntKind.wrap .i64 (a0 + x0.2.2.1)), a1, a2, (IntKind.wrap .i64 (a3 + 1)), ()))
 | false => some (.inr (.inl (a0, ())))
def ZU [Lk] : V4 → Option (U8) := fun (a0, _) =>
 match EV ((a0.1, (a0.2.1, ())), ()) with
 | none => none
 | some (y0, _) => match (!y0) with
 | true => some (0, ())
 | false => match AT Sh many (0, a0.2.1, (AO a0.2.1), 0, ()) with
 | none => none
 | some r => match r with
 | .inl (o1, _) => some (o1, ())
 | .inr _ => none
def AIX [Lk] := fun v => Lk.f (ZU v)
theorem AYZ v : AIX v = ZU v := AK _
abbrev OP : AE := [(.tmp 0, .dat Ua)]
abbrev OO : AE := [(.tmp 0, .di)]
abbrev ON : List RS := [.one]
def OQ [Lk] : V4 → Option (U8) := fun (a0, _) =>
 match AIX ((a0.1, (a0.2.1, ())), ()) with
 | none => none
 | some (y0, _) => some (y0, ())
def P5 [Lk] := fun v => Lk.f (OQ v)
theorem ANH v : P5 v = OQ v := AK _
abbrev ZN : AE := [(.tmp 0, .dat Ua), (.tmp 1, .clo 86 [])]
abbrev ZM : AE := [(.tmp 0, .di)]
abbrev ZL : List RS := [.one]
abbrev AFg : AE := [(.tmp 1, .clo 86 []), (.tmp 4, .di), (.tmp 11, .dat Un), (.tmp 12, .di), (.tmp 13, .di)]
abbrev AFf : Am := [(.exit 0, [(.tmp 4, .di)])]
def Sg [Lk] : Ut → Option (Ut ⊕ U8 ⊕ Unit) := fun (a0, a1, a2, a3, _) =>
 match (ilt a3 a2) with
 | true => match idx a1 a3 with
  | none => none
  | some x0 => match x0.2.2.2.1 with
  | true => some (.inl ((IntKind.wrap .i64 (a0 + x0.2.2.1)), a1, a2, (IntKind.wrap .i64 (a3 + 1)), ()))
  | false => some (.inl (a0, a1, a2, (IntKind.wrap .i64 (a3 + 1)), ()))
 | false => some (.inr (.inl (a0, ())))
def ZP [Lk] : V4 → Option (U8) := fun (a0, _) =>
 match EV ((a0.1, (a0.2.1, ())), ()) with
 | none => none
 | some (y0, _) => match (!y0) with
 | true => some (0, ())
 | false => match AT Sg many (0, a0.2.1, (AO a0.2.1), 0, ()) with
 | none => none
 | some r => match r with
 | .inl (o1, _) => some (o1, ())
 | .inr _ => none
def AIV [Lk] := fun v => Lk.f (ZP v)
theorem AYW v : AIV v = ZP v := AK _
abbrev OK : AE := [(.tmp 0, .dat Ua)]
abbrev OJ : AE := [(.tmp 0, .di)]
abbrev OI : List RS := [.one]
def OL [Lk] : V4 → Option (U8) := fun (a0, _) =>
 match AIV ((a0.1, (a0.2.1, ())), ()) with
 | none => none
 | some (y0, _) => some (y0, ())
def Kx [Lk] := fun v => Lk.f (OL v)
theorem AM9 v : Kx v = OL v := AK _
abbrev Zd : AE := [(.tmp 0, .dat Ua)]
abbrev Zc : AE := [(.tmp 0, .own 42 U5), (.tmp 1, .di)]
abbrev Zb : List RS := [.one, .one]
abbrev AFk : AE := [(.tmp 1, .box 2), (.cell 0 0, .di), (.cell 0 1, .dat Un), (.tmp 5, .own 42 U5), (.tmp 16, .own 44 U0), (.tmp 17, .di), (.tmp 18, .di)]
abbrev AFj : Am := [(.exit 0, [(.tmp 1, .box 2), (.cell 0 0, .di), (.cell 0 1, .dat Un), (.tmp 5, .own 42 U5)])]
def Sp [Lk] : (Int × List U1 × List U3 × List U1 × Int × Int × Unit) → Option ((Int × List U1 × List U3 × List U1 × Int × Int × Unit) ⊕ (Int × List U1 × List U3 × Unit) ⊕ Unit) := fun (a0, a1, a2, a3, a4, a5, _) =>
 match (ilt a5 a4) with
 | true => match idx a3 a5 with
  | none => none
  | some x0 => match (fits ((AO a2) + (AO ([((AS a3 (AJ a5) (0, (0, (0, (false, ()))))).1, ((AS a3 (AJ a5) (0, (0, (0, (false, ()))))).2.1, ()))] : List U3)))) with
  | true => some (.inl (a0, a1, (Aq a2 ([((AS a3 (AJ a5) (0, (0, (0, (false, ()))))).1, ((AS a3 (AJ a5) (0, (0, (0, (false, ()))))).2.1, ()))] : List U3)), a3, a4, (IntKind.wrap .i64 (a5 + 1)), ()))
  | false => none
 | false => some (.inr (.inl (a0, a1, a2, ())))
def Zf [Lk] : V4 → Option ((List U3 × Int × Unit)) := fun (a0, _) =>
 match EV ((a0.1, (a0.2.1, ())), ()) with
 | none => none
 | some (y0, _) => match (!y0) with
 | true => some (([] : List U3), 1, ())
 | false => match AVb a0.2.1 with
 | none => none
 | some x1 => match AIP (x1, ()) with
 | none => none
 | some (y2, _) => match AT Sp many (a0.1, a0.2.1, ([] : List U3), y2, (AO y2), 0, ()) with
 | none => none
 | some r => match r with
 | .inl (o3, o4, o5, _) => match AIL (o3, o5, ()) with
  | none => none
  | some (y6, y7, _) => some (y6, y7, ())
 | .inr _ => none
def Zg [Lk] := fun v => Lk.f (Zf v)
theorem AYg v : Zg v = Zf v := AK _
abbrev AUf : AE := [(.tmp 0, .dat Ua), (.tmp 1, .di)]
abbrev AUe : AE := [(.tmp 0, .dat .bool)]
abbrev AUd : List RS := [.one]
def AKU [Lk] : (Uc × Int × Unit) → Option (Uf) := fun (a0, a1, _) =>
 match (ile 0 a1) with
 | true => some ((ilt a1 a0.1), ())
 | false => some (false, ())
def AEx [Lk] := fun v => Lk.f (AKU v)
theorem AXG v : AEx v = AKU v := AK _
abbrev ACV : AE := [(.tmp 0, .dat Ua), (.tmp 1, .dat Ul)]
abbrev ACU : AE := [(.tmp 0, .own 42 U5), (.tmp 1, .di)]
abbrev ACT : List RS := [.one, .one]
abbrev AGl : AE := [(.tmp 7, .own 42 U5), (.tmp 8, .own 42 U5), (.tmp 9, .own 42 U5), (.tmp 10, .di)]
abbrev AGj : Am := [(.exit 2, [(.tmp 9, .own 42 U5)])]
def FH [Lk] : V6 → Option (V6 ⊕ Uz ⊕ Unit) := fun (a0, a1, a2, a3, _) =>
 match (ilt a3 (AO a1)) with
 | true => match idx a1 a3 with
  | none => none
  | some x0 => match WX (a0, ((AS a1 (AJ a3) (0, (0, ()))).1, ((AS a1 (AJ a3) (0, (0, ()))).2.1, ())), ()) with
  | none => none
  | some (y1, _) => match y1 with
  | true => match idx a1 a3 with
   | none => none
   | some x2 => match (fits ((AO a2) + (AO ([((AS a1 (AJ a3) (0, (0, ()))).1, ((AS a1 (AJ a3) (0, (0, ()))).2.1, ()))] : List U3)))) with
   | true => some (.inl (a0, a1, (Aq a2 ([((AS a1 (AJ a3) (0, (0, ()))).1, ((AS a1 (AJ a3) (0, (0, ()))).2.1, ()))] : List U3)), (IntKind.wrap .i64 (a3 + 1)), ()))
   | false => none
  | false => some (.inl (a0, a1, a2, (IntKind.wrap .i64 (a3 + 1)), ()))
 | false => some (.inr (.inl (a2, ())))
abbrev AGm : AE := [(.tmp 1, .dat Ul), (.tmp 2, .box 2), (.cell 0 0, .di), (.cell 0 1, .dat Un), (.tmp 6, .di)]
abbrev AGk : Am := [(.ret, [(.tmp 4, .nil U5), (.tmp 5, .di)]), (.exit 0, [(.tmp 1, .dat Ul), (.tmp 2, .box 2), (.cell 0 0, .di), (.cell 0 1, .dat Un)])]
def FI [Lk] : V7 → Option (V7 ⊕ U8 ⊕ (List U3 × Int × List U1 × Unit) ⊕ Unit) := fun (a0, a1, a2, a3, _) =>
 match (ilt a3 (AO a0)) with
 | true => match idx a0 a3 with
  | none => none
  | some x0 => match AEx ((a1, (a2, ())), x0.1, ()) with
  | none => none
  | some (y1, _) => match (!y1) with
  | true => some (.inr (.inl (10, ())))
  | false => match idx a0 a3 with
  | none => none
  | some x2 => match AEx ((a1, (a2, ())), x2.2.1, ()) with
  | none => none
  | some (y3, _) => match (!y3) with
  | true => some (.inr (.inl (10, ())))
  | false => some (.inl (a0, a1, a2, (IntKind.wrap .i64 (a3 + 1)), ()))
 | false => some (.inr (.inr (.inl (a0, a1, a2, ()))))
def Q3 [Lk] : Va → Option ((List U3 × Int × Unit)) := fun (a0, a1, _) =>
 match Bg ((a0.1, (a0.2.1, ())), ()) with
 | none => none
 | some (y0, _) => match (!y0) with
 | true => some (([] : List U3), 1, ())
 | false => match AT FI many (a1, a0.1, a0.2.1, 0, ()) with
 | none => none
 | some r => match r with
 | .inl (o1, _) => some (([] : List U3), o1, ())
 | .inr r => match r with
 | .inl (o2, o3, o4, _) => match KB ((o3, (o4, ())), ()) with
  | none => none
  | some (y5, _) => match Ms (o3, o2, ()) with
  | none => none
  | some (y6, _) => match AT FH many (y5, y6, ([] : List U3), 0, ()) with
  | none => none
  | some r => match r with
  | .inl (o7, _) => some (o7, 0, ())
  | .inr _ => none
 | .inr _ => none
def ACW [Lk] := fun v => Lk.f (Q3 v)
theorem AGn v : ACW v = Q3 v := AK _
abbrev LQ : AE := [(.tmp 0, .dat Ua), (.tmp 1, .di), (.tmp 2, .di)]
abbrev LP : AE := [(.tmp 0, .own 3 U2)]
abbrev LO : List RS := [.one]
abbrev Qh : AE := [(.tmp 1, .di), (.tmp 3, .box 2), (.cell 0 0, .di), (.cell 0 1, .dat Un), (.tmp 7, .own 3 U2), (.tmp 8, .own 3 U2), (.tmp 9, .di)]
abbrev Qg : Am := [(.exit 0, [(.tmp 8, .own 3 U2)])]
def CV [Lk] : (Int × Int × List U1 × List Int × List Int × Int × Unit) → Option ((Int × Int × List U1 × List Int × List Int × Int × Unit) ⊕ Um ⊕ Unit) := fun (a0, a1, a2, a3, a4, a5, _) =>
 match (ilt a5 a1) with
 | true => match idx a3 a5 with
  | none => none
  | some x0 => match idx a3 a0 with
  | none => none
  | some x1 => match (ieq (AS a3 (AJ a5) 0) (AS a3 (AJ a0) 0)) with
  | true => match (fits ((AO a4) + (AO ([a5] : List (Int))))) with
   | true => some (.inl (a0, a1, a2, a3, (Aq a4 ([a5] : List (Int))), (IntKind.wrap .i64 (a5 + 1)), ()))
   | false => none
  | false => some (.inl (a0, a1, a2, a3, a4, (IntKind.wrap .i64 (a5 + 1)), ()))
 | false => some (.inr (.inl (a4, ())))
def Hy [Lk] : (Uc × Int × Int × Unit) → Option (Um) := fun (a0, a1, a2, _) =>
 match GR ((a0.1, (a0.2.1, ())), a2, ()) with
 | none => none
 | some (y0, _) => match Cm (a0.1, y0, ()) with
 | none => none
 | some (y1, _) => match AT CV many (a1, a0.1, a0.2.1, y1, ([] : List (Int)), 0, ()) with
 | none => none
 | some r => match r with
 | .inl (o2, _) => some (o2, ())
 | .inr _ => none
def E2 [Lk] := fun v => Lk.f (Hy v)
theorem Qi v : E2 v = Hy v := AK _
abbrev AKd : AE := [(.tmp 0, .dat U6), (.tmp 1, .di)]
abbrev AKc : AE := [(.tmp 0, .dat .bool)]
abbrev AKb : List RS := [.one]
abbrev APo : AE := [(.tmp 0, .dat U6), (.tmp 1, .di), (.tmp 5, .di)]
abbrev APn : Am := [(.ret, [(.tmp 4, .dat .bool)]), (.exit 0, [])]
def HO [Lk] : Uk → Option (Uk ⊕ Uf ⊕ (Unit) ⊕ Unit) := fun (a0, a1, a2, _) =>
 match (ilt a2 (AO a0)) with
 | true => match idx a0 a2 with
  | none => none
  | some x0 => match (ieq x0 a1) with
  | true => some (.inr (.inl (true, ())))
  | false => some (.inl (a0, a1, (IntKind.wrap .i64 (a2 + 1)), ()))
 | false => some (.inr (.inr (.inl ())))
def Xv [Lk] : Uo → Option (Uf) := fun (a0, a1, _) =>
 match AT HO many (a0, a1, 0, ()) with
 | none => none
 | some r => match r with
 | .inl (o0, _) => some (o0, ())
 | .inr r => match r with
 | .inl _ => some (false, ())
 | .inr _ => none
def JD [Lk] := fun v => Lk.f (Xv v)
theorem APp v : JD v = Xv v := AK _
abbrev Zr : AE := [(.tmp 0, .dat Ua), (.tmp 1, .di), (.tmp 2, .di), (.tmp 3, .di)]
abbrev Zq : AE := [(.tmp 0, .own 3 U2), (.tmp 1, .di)]
abbrev Zp : List RS := [.one, .one]
def QH [Lk] : (Uc × Int × Int × Int × Unit) → Option (Uo) := fun (a0, a1, a2, a3, _) =>
 match Bg ((a0.1, (a0.2.1, ())), ()) with
 | none => none
 | some (y0, _) => match (!y0) with
 | true => some (([] : List (Int)), 1, ())
 | false => match AEx ((a0.1, (a0.2.1, ())), a1, ()) with
 | none => none
 | some (y1, _) => match (!y1) with
 | true => some (([] : List (Int)), 10, ())
 | false => match AEx ((a0.1, (a0.2.1, ())), a2, ()) with
 | none => none
 | some (y2, _) => match (!y2) with
 | true => some (([] : List (Int)), 10, ())
 | false => match E2 ((a0.1, (a0.2.1, ())), a1, a3, ()) with
 | none => none
 | some (y3, _) => match E2 ((a0.1, (a0.2.1, ())), a2, a3, ()) with
 | none => none
 | some (y4, _) => match JD (y3, a2, ()) with
 | none => none
 | some (y5, _) => match y5 with
 | true => some (([] : List (Int)), 5, ())
 | false => match (ilt (AO y3) (AO y4)) with
 | true => some (y3, 0, ())
 | false => match (ieq (AO y3) (AO y4)) with
 | true => match idx y3 0 with
  | none => none
  | some x6 => match idx y4 0 with
  | none => none
  | some x7 => match (ilt (AS y3 0 0) (AS y4 0 0)) with
  | true => some (y3, 0, ())
  | false => some (y4, 0, ())
 | false => some (y4, 0, ())
def Zs [Lk] := fun v => Lk.f (QH v)
theorem AFr v : Zs v = QH v := AK _
abbrev AJt : AE := [(.tmp 0, .dat Ua), (.tmp 1, .di), (.tmp 2, .di)]
abbrev AJs : AE := [(.tmp 0, .di), (.tmp 1, .dat Un), (.tmp 2, .dat Uy), (.tmp 3, .di)]
abbrev AJq : List RS := [.agg 2, .one, .one]
abbrev AO0 : AE := [(.tmp 6, .box 2), (.cell 0 0, .di), (.cell 0 1, .nil U0), (.tmp 7, .box 5), (.cell 1 0, .dat .bool), (.cell 1 1, .dat .bool), (.cell 1 2, .di), (.cell 1 3, .di), (.cell 1 4, .di), (.tmp 10, .box 4), (.cell 2 0, .di), (.cell 2 1, .di), (.cell 2 2, .di), (.cell 2 3, .dat .bool), (.tmp 11, .box 2), (.cell 3 0, .di), (.cell 3 1, .own 44 U0), (.tmp 12, .box 5), (.cell 5 0, .dat .bool), (.cell 5 1, .dat .bool), (.cell 5 2, .di), (.cell 5 3, .di), (.cell 5 4, .di), (.tmp 13, .di), (.tmp 14, .di), (.tmp 15, .own 3 U2), (.tmp 19, .di), (.tmp 79, .ptr' 2 3), (.tmp 80, .dat .bool)]
abbrev AOx : Am := [(.ret, [(.tmp 6, .box 2), (.cell 0 0, .di), (.cell 0 1, .own 44 U0), (.tmp 7, .box 5), (.cell 2 0, .dat .bool), (.cell 2 1, .dat .bool), (.cell 2 2, .di), (.cell 2 3, .di), (.cell 2 4, .di), (.tmp 8, .di)]), (.exit 5, [(.tmp 6, .box 2), (.cell 0 0, .di), (.cell 0 1, .nil U0), (.tmp 7, .box 5), (.cell 1 0, .dat .bool), (.cell 1 1, .dat .bool), (.cell 1 2, .di), (.cell 1 3, .di), (.cell 1 4, .di), (.tmp 10, .box 4), (.cell 2 0, .di), (.cell 2 1, .di), (.cell 2 2, .di), (.cell 2 3, .dat .bool), (.tmp 11, .box 2), (.cell 3 0, .di), (.cell 3 1, .own 44 U0), (.tmp 12, .box 5), (.cell 5 0, .dat .bool), (.cell 5 1, .dat .bool), (.cell 5 2, .di), (.cell 5 3, .di), (.cell 5 4, .di), (.tmp 13, .di), (.tmp 14, .di), (.tmp 79, .ptr' 2 3), (.tmp 80, .dat .bool)])]
def Ft [Lk] : Ug → Option (Ug ⊕ (Int × List U1 × Bool × Bool × Int × Int × Int × Int × Unit) ⊕ (Int × Bool × Bool × Int × Int × Int × Int × Int × Int × Bool × Int × List U1 × Bool × Bool × Int × Int × Int × Int × Int × Bool × Unit) ⊕ Unit) := fun (a0, a1, a2, a3, a4, a5, a6, a7, a8, a9, a10, a11, a12, a13, a14, a15, a16, a17, a18, a19, a20, a21, _) =>
 match (ilt a20 (AO a11)) with
 | true => match idx a11 a20 with
  | none => none
  | some x0 => match (AS a11 (AJ a20) (0, (0, (0, (false, ()))))).2.2.2.1 with
  | true => some (.inl (a0, a1, a2, a3, a4, a5, a6, a7, a8, a9, a10, a11, a12, a13, a14, a15, a16, a17, a18, a19, (IntKind.wrap .i64 (a20 + 1)), a21, ()))
  | false => match (!(ieq (AS a11 (AJ a20) (0, (0, (0, (false, ()))))).2.2.1 a18)) with
  | true => some (.inl (a0, a1, a2, a3, a4, a5, a6, a7, a8, a9, a10, a11, a12, a13, a14, a15, a16, a17, a18, a19, (IntKind.wrap .i64 (a20 + 1)), a21, ()))
  | false => match JD (a19, (AS a11 (AJ a20) (0, (0, (0, (false, ()))))).1, ()) with
  | none => none
  | some (y1, _) => match y1 with
  | true => match JD (a19, (AS a11 (AJ a20) (0, (0, (0, (false, ()))))).2.1, ()) with
   | none => none
   | some (y2, _) => match y2 with
   | true => match idx a11 a20 with
    | none => none
    | some x3 => some (.inl (a0, a1, a2, a3, a4, a5, a6, a7, a8, a9, a10, (Ap a11 (AJ a20) ((AS a11 (AJ a20) (0, (0, (0, (false, ()))))).1, ((AS a11 (AJ a20) (0, (0, (0, (false, ()))))).2.1, ((CF a17 (IntKind.wrap .i64 (a18 + 1))), ((AS a11 (AJ a20) (0, (0, (0, (false, ()))))).2.2.2.1, ()))))), a12, a13, a14, a15, (IntKind.wrap .i64 (a16 + 1)), a17, a18, a19, (IntKind.wrap .i64 (a20 + 1)), a21, ()))
   | false => match JD (a19, (AS a11 (AJ a20) (0, (0, (0, (false, ()))))).1, ()) with
   | none => none
   | some (y4, _) => match y4 with
   | true => match idx a11 a20 with
    | none => none
    | some x5 => some (.inr (.inl (a10, (Ap a11 (AJ a20) ((AS a11 (AJ a20) (0, (0, (0, (false, ()))))).1, ((AS a11 (AJ a20) (0, (0, (0, (false, ()))))).2.1, ((AS a11 (AJ a20) (0, (0, (0, (false, ()))))).2.2.1, (true, ()))))), a12, true, (AS a11 (AJ a20) (0, (0, (0, (false, ()))))).1, (AS a11 (AJ a20) (0, (0, (0, (false, ()))))).2.1, a16, 0, ())))
   | false => match JD (a19, (AS a11 (AJ a20) (0, (0, (0, (false, ()))))).2.1, ()) with
   | none => none
   | some (y6, _) => match y6 with
   | true => match idx a11 a20 with
    | none => none
    | some x7 => some (.inr (.inl (a10, (Ap a11 (AJ a20) ((AS a11 (AJ a20) (0, (0, (0, (false, ()))))).1, ((AS a11 (AJ a20) (0, (0, (0, (false, ()))))).2.1, ((AS a11 (AJ a20) (0, (0, (0, (false, ()))))).2.2.1, (true, ()))))), a12, true, (AS a11 (AJ a20) (0, (0, (0, (false, ()))))).1, (AS a11 (AJ a20) (0, (0, (0, (false, ()))))).2.1, a16, 0, ())))
   | false => some (.inl (a0, a1, a2, a3, a4, a5, a6, a7, a8, a9, a10, a11, a12, a13, a14, a15, a16, a17, a18, a19, (IntKind.wrap .i64 (a20 + 1)), a21, ()))
  | false => match JD (a19, (AS a11 (AJ a20) (0, (0, (0, (false, ()))))).1, ()) with
  | none => none
  | some (y8, _) => match y8 with
  | true => match idx a11 a20 with
   | none => none
   | some x9 => some (.inr (.inl (a10, (Ap a11 (AJ a20) ((AS a11 (AJ a20) (0, (0, (0, (false, ()))))).1, ((AS a11 (AJ a20) (0, (0, (0, (false, ()))))).2.1, ((AS a11 (AJ a20) (0, (0, (0, (false, ()))))).2.2.1, (true, ()))))), a12, true, (AS a11 (AJ a20) (0, (0, (0, (false, ()))))).1, (AS a11 (AJ a20) (0, (0, (0, (false, ()))))).2.1, a16, 0, ())))
  | false => match JD (a19, (AS a11 (AJ a20) (0, (0, (0, (false, ()))))).2.1, ()) with
  | none => none
  | some (y10, _) => match y10 with
  | true => match idx a11 a20 with
   | none => none
   | some x11 => some (.inr (.inl (a10, (Ap a11 (AJ a20) ((AS a11 (AJ a20) (0, (0, (0, (false, ()))))).1, ((AS a11 (AJ a20) (0, (0, (0, (false, ()))))).2.1, ((AS a11 (AJ a20) (0, (0, (0, (false, ()))))).2.2.1, (true, ()))))), a12, true, (AS a11 (AJ a20) (0, (0, (0, (false, ()))))).1, (AS a11 (AJ a20) (0, (0, (0, (false, ()))))).2.1, a16, 0, ())))
  | false => some (.inl (a0, a1, a2, a3, a4, a5, a6, a7, a8, a9, a10, a11, a12, a13, a14, a15, a16, a17, a18, a19, (IntKind.wrap .i64 (a20 + 1)), a21, ()))
 | false => some (.inr (.inr (.inl (a0, a1, a2, a3, a4, a5, a6, a7, a8, a9, a10, a11, a12, a13, a14, a15, a16, a17, a18, a21, ()))))
abbrev AO1 : AE := [(.tmp 6, .box 2), (.cell 0 0, .di), (.cell 0 1, .nil U0), (.tmp 7, .box 5), (.cell 1 0, .dat .bool), (.cell 1 1, .dat .bool), (.cell 1 2, .di), (.cell 1 3, .di), (.cell 1 4, .di), (.tmp 10, .box 4), (.cell 2 0, .di), (.cell 2 1, .di), (.cell 2 2, .di), (.cell 2 3, .dat .bool), (.tmp 11, .box 2), (.cell 3 0, .di), (.cell 3 1, .own 44 U0), (.tmp 12, .box 5), (.cell 5 0, .dat .bool), (.cell 5 1, .dat .bool), (.cell 5 2, .di), (.cell 5 3, .di), (.cell 5 4, .di), (.tmp 13, .di), (.tmp 14, .di), (.tmp 15, .own 3 U2), (.tmp 17, .di), (.tmp 79, .ptr' 2 3), (.tmp 80, .dat .bool)]
abbrev AOy : Am := [(.exit 3, [(.tmp 6, .box 2), (.cell 0 0, .di), (.cell 0 1, .nil U0), (.tmp 7, .box 5), (.cell 1 0, .dat .bool), (.cell 1 1, .dat .bool), (.cell 1 2, .di), (.cell 1 3, .di), (.cell 1 4, .di), (.tmp 10, .box 4), (.cell 2 0, .di), (.cell 2 1, .di), (.cell 2 2, .di), (.cell 2 3, .dat .bool), (.tmp 11, .box 2), (.cell 3 0, .di), (.cell 3 1, .own 44 U0), (.tmp 12, .box 5), (.cell 5 0, .dat .bool), (.cell 5 1, .dat .bool), (.cell 5 2, .di), (.cell 5 3, .di), (.cell 5 4, .di), (.tmp 13, .di), (.tmp 14, .di), (.tmp 15, .own 3 U2), (.tmp 79, .ptr' 2 3), (.tmp 80, .dat .bool)])]
def Fu [Lk] : Ug → Option (Ug ⊕ (Int × Bool × Bool × Int × Int × Int × Int × Int × Int × Bool × Int × List U1 × Bool × Bool × Int × Int × Int × Int × Int × List Int × Bool × Unit) ⊕ Unit) := fun (a0, a1, a2, a3, a4, a5, a6, a7, a8, a9, a10, a11, a12, a13, a14, a15, a16, a17, a18, a19, a20, a21, _) =>
 match (ilt a20 (AO a11)) with
 | true => match idx a11 a20 with
  | none => none
  | some x0 => match (AS a11 (AJ a20) (0, (0, (0, (false, ()))))).2.2.2.1 with
  | true => match (ieq (AS a11 (AJ a20) (0, (0, (0, (false, ()))))).2.2.1 a18) with
   | true => match JD (a19, (AS a11 (AJ a20) (0, (0, (0, (false, ()))))).1, ()) with
    | none => none
    | some (y1, _) => match y1 with
    | true => match JD (a19, (AS a11 (AJ a20) (0, (0, (0, (false, ()))))).2.1, ()) with
     | none => none
     | some (y2, _) => match y2 with
     | true => match idx a11 a20 with
      | none => none
      | some x3 => some (.inl (a0, a1, a2, a3, a4, a5, a6, a7, a8, a9, a10, (Ap a11 (AJ a20) ((AS a11 (AJ a20) (0, (0, (0, (false, ()))))).1, ((AS a11 (AJ a20) (0, (0, (0, (false, ()))))).2.1, ((CF a17 (IntKind.wrap .i64 (a18 + 1))), ((AS a11 (AJ a20) (0, (0, (0, (false, ()))))).2.2.2.1, ()))))), a12, a13, a14, a15, (IntKind.wrap .i64 (a16 + 1)), a17, a18, a19, (IntKind.wrap .i64 (a20 + 1)), a21, ()))
     | false => some (.inl (a0, a1, a2, a3, a4, a5, a6, a7, a8, a9, a10, a11, a12, a13, a14, a15, a16, a17, a18, a19, (IntKind.wrap .i64 (a20 + 1)), a21, ()))
    | false => some (.inl (a0, a1, a2, a3, a4, a5, a6, a7, a8, a9, a10, a11, a12, a13, a14, a15, a16, a17, a18, a19, (IntKind.wrap .i64 (a20 + 1)), a21, ()))
   | false => some (.inl (a0, a1, a2, a3, a4, a5, a6, a7, a8, a9, a10, a11, a12, a13, a14, a15, a16, a17, a18, a19, (IntKind.wrap .i64 (a20 + 1)), a21, ()))
  | false => some (.inl (a0, a1, a2, a3, a4, a5, a6, a7, a8, a9, a10, a11, a12, a13, a14, a15, a16, a17, a18, a19, (IntKind.wrap .i64 (a20 + 1)), a21, ()))
 | false => some (.inr (.inl (a0, a1, a2, a3, a4, a5, a6, a7, a8, a9, a10, a11, a12, a13, a14, a15, a16, a17, a18, a19, a21, ())))
abbrev AO2 : AE := [(.tmp 6, .box 2), (.cell 0 0, .di), (.cell 0 1, .nil U0), (.tmp 7, .box 5), (.cell 1 0, .dat .bool), (.cell 1 1, .dat .bool), (.cell 1 2, .di), (.cell 1 3, .di), (.cell 1 4, .di), (.tmp 10, .box 4), (.cell 2 0, .di), (.cell 2 1, .di), (.cell 2 2, .di), (.cell 2 3, .dat .bool), (.tmp 11, .box 2), (.cell 3 0, .di), (.cell 3 1, .own 44 U0), (.tmp 12, .box 5), (.cell 5 0, .dat .bool), (.cell 5 1, .dat .bool), (.cell 5 2, .di), (.cell 5 3, .di), (.cell 5 4, .di), (.tmp 13, .di), (.tmp 14, .di)]
abbrev AOz : Am := [(.ret, [(.tmp 6, .box 2), (.cell 0 0, .di), (.cell 0 1, .own 44 U0), (.tmp 7, .box 5), (.cell 2 0, .dat .bool), (.cell 2 1, .dat .bool), (.cell 2 2, .di), (.cell 2 3, .di), (.cell 2 4, .di), (.tmp 8, .di)]), (.exit 1, [(.tmp 6, .box 2), (.cell 0 0, .di), (.cell 0 1, .nil U0), (.tmp 7, .box 5), (.cell 1 0, .dat .bool), (.cell 1 1, .dat .bool), (.cell 1 2, .di), (.cell 1 3, .di), (.cell 1 4, .di), (.tmp 11, .box 2), (.cell 2 0, .di), (.cell 2 1, .own 44 U0), (.tmp 12, .box 5), (.cell 4 0, .dat .bool), (.cell 4 1, .dat .bool), (.cell 4 2, .di), (.cell 4 3, .di), (.cell 4 4, .di)])]
def ER [Lk] : V5 → Option (V5 ⊕ (Int × List U1 × Bool × Bool × Int × Int × Int × Int × Unit) ⊕ (Int × Bool × Bool × Int × Int × Int × Int × List U1 × Bool × Bool × Int × Int × Int × Unit) ⊕ Unit) := fun (a0, a1, a2, a3, a4, a5, a6, a7, a8, a9, a10, a11, a12, a13, a14, a15, a16, a17, a18, _) =>
 match (ile 0 a18) with
 | true => match a9 with
  | true => match Zs ((a10, (a11, ())), a6, a7, a18, ()) with
   | none => none
   | some (y0, y1, _) => match AT Fu many (a0, a1, a2, a3, a4, a5, a6, a7, a8, a9, a10, a11, a12, a13, a14, a15, a16, a17, a18, y0, 0, a9, ()) with
   | none => none
   | some r => match r with
   | .inl (o2, o3, o4, o5, o6, o7, o8, o9, o10, o11, o12, o13, o14, o15, o16, o17, o18, o19, o20, o21, o22, _) => match AT Ft many (o2, o3, o4, o5, o6, o7, o8, o9, o10, o11, o12, o13, o14, o15, o16, o17, o18, o19, o20, o21, 0, o22, ()) with
    | none => none
    | some r => match r with
    | .inl (o23, o24, o25, o26, o27, o28, o29, o30, _) => some (.inr (.inl (o23, o24, o25, o26, o27, o28, o29, o30, ())))
    | .inr r => match r with
    | .inl (o31, o32, o33, o34, o35, o36, o37, o38, o39, o40, o41, o42, o43, o44, o45, o46, o47, o48, o49, o50, _) => some (.inl (o31, o32, o33, o34, o35, o36, o37, o38, o39, o40, o41, o42, o43, o44, o45, o46, o47, o48, (IntKind.wrap .i64 (o49 - 1)), ()))
    | .inr _ => none
   | .inr _ => none
  | false => some (.inr (.inr (.inl (a0, a1, a2, a3, a4, a5, a10, a11, a12, a13, a14, a15, a16, ()))))
 | false => some (.inr (.inr (.inl (a0, a1, a2, a3, a4, a5, a10, a11, a12, a13, a14, a15, a16, ()))))
def Xp [Lk] : (Uc × Int × Int × Unit) → Option ((Int × List U1 × Ur × Int × Unit)) := fun (a0, a1, a2, _) =>
 match Bg ((a0.1, (a0.2.1, ())), ()) with
 | none => none
 | some (y0, _) => match (!y0) with
 | true => some (a0.1, a0.2.1, (false, (false, ((0, (0, ())), (0, ())))), 1, ())
 | false => match AEx ((a0.1, (a0.2.1, ())), a1, ()) with
 | none => none
 | some (y1, _) => match (!y1) with
 | true => some (a0.1, a0.2.1, (false, (false, ((0, (0, ())), (0, ())))), 10, ())
 | false => match AEx ((a0.1, (a0.2.1, ())), a2, ()) with
 | none => none
 | some (y2, _) => match (!y2) with
 | true => some (a0.1, a0.2.1, (false, (false, ((0, (0, ())), (0, ())))), 10, ())
 | false => match ACp ((a0.1, (a0.2.1, ())), a1, a2, ()) with
 | none => none
 | some (y3, _) => match (ilt y3 0) with
 | true => some (a0.1, a0.2.1, (false, (false, ((0, (0, ())), (0, ())))), 6, ())
 | false => match idx a0.2.1 y3 with
 | none => none
 | some x4 => match CM a0.2.1 0 y3 with
 | none => none
 | some x5 => match (fits ((AO ([] : List U1)) + (AO x5))) with
 | true => match CM a0.2.1 (IntKind.wrap .i64 (y3 + 1)) (AO a0.2.1) with
  | none => none
  | some x6 => match (fits ((AO (Aq ([] : List U1) x5)) + (AO x6))) with
  | true => match Ke (a0.1, ()) with
   | none => none
   | some (y7, _) => match AT ER many (0, false, false, 0, 0, 0, x4.1, x4.2.1, x4.2.2.1, x4.2.2.2.1, a0.1, (Aq (Aq ([] : List U1) x5) x6), x4.2.2.2.1, false, 0, 0, 0, y7, x4.2.2.1, ()) with
   | none => none
   | some r => match r with
   | .inl (o8, o9, o10, o11, o12, o13, o14, o15, _) => some (o8, o9, (o10, (o11, ((o12, (o13, ())), (o14, ())))), o15, ())
   | .inr r => match r with
   | .inl (o16, o17, o18, o19, o20, o21, o22, o23, o24, o25, o26, o27, o28, _) => some (o22, o23, (o24, (o25, ((o26, (o27, ())), (o28, ())))), 0, ())
   | .inr _ => none
  | false => none
 | false => none
def ABR [Lk] := fun v => Lk.f (Xp v)
theorem AO3 v : ABR v = Xp v := AK _
abbrev ACy : AE := [(.tmp 0, .dat Ua), (.tmp 1, .dat Ul)]
abbrev ACx : AE := [(.tmp 0, .dat Ua), (.tmp 1, .own 71 Uy), (.tmp 2, .di)]
abbrev ACw : List RS := [.one, .one, .one]
abbrev AG1 : AE := [(.tmp 2, .box 2), (.cell 0 0, .di), (.cell 0 1, .dat Un), (.tmp 4, .box 2), (.cell 1 0, .di), (.cell 1 1, .nil U0), (.tmp 7, .own 42 U5), (.tmp 9, .own 71 Uy), (.tmp 10, .box 2), (.cell 4 0, .di), (.cell 4 1, .dat Un), (.tmp 11, .di)]
abbrev AG0 : Am := [(.ret, [(.tmp 4, .box 2), (.cell 0 0, .di), (.cell 0 1, .dat Un), (.tmp 5, .nil Uy), (.tmp 6, .di)]), (.exit 0, [(.tmp 4, .box 2), (.cell 0 0, .di), (.cell 0 1, .nil U0), (.tmp 9, .own 71 Uy), (.tmp 10, .box 2), (.cell 2 0, .di), (.cell 2 1, .dat Un)])]
def FL [Lk] : (Int × List U1 × Int × List U3 × List Ur × Int × List U1 × Int × Unit) → Option ((Int × List U1 × Int × List U3 × List Ur × Int × List U1 × Int × Unit) ⊕ (Int × List U1 × Int × Unit) ⊕ (Int × List Ur × Int × List U1 × Unit) ⊕ Unit) := fun (a0, a1, a2, a3, a4, a5, a6, a7, _) =>
 match (ilt a7 (AO a3)) with
 | true => match idx a3 a7 with
  | none => none
  | some x0 => match idx a3 a7 with
  | none => none
  | some x1 => match ABR ((a5, (a6, ())), (AS a3 (AJ a7) (0, (0, ()))).1, (AS a3 (AJ a7) (0, (0, ()))).2.1, ()) with
  | none => none
  | some (y2, y3, y4, y5, _) => match (!(ieq y5 0)) with
  | true => some (.inr (.inl (a0, a1, y5, ())))
  | false => match (fits ((AO a4) + (AO ([(y4.1, (y4.2.1, ((y4.2.2.1.1, (y4.2.2.1.2.1, ())), (y4.2.2.2.1, ()))))] : List Ur)))) with
  | true => some (.inl (a0, a1, a2, a3, (Aq a4 ([(y4.1, (y4.2.1, ((y4.2.2.1.1, (y4.2.2.1.2.1, ())), (y4.2.2.2.1, ()))))] : List Ur)), y2, y3, (IntKind.wrap .i64 (a7 + 1)), ()))
  | false => none
 | false => some (.inr (.inr (.inl (a2, a4, a5, a6, ()))))
def RH [Lk] : Va → Option ((Uc × List Ur × Int × Unit)) := fun (a0, a1, _) =>
 match ACW ((a0.1, (a0.2.1, ())), a1, ()) with
 | none => none
 | some (y0, y1, _) => match (!(ieq y1 0)) with
 | true => some ((a0.1, (a0.2.1, ())), ([] : List Ur), y1, ())
 | false => match AT FL many (a0.1, a0.2.1, 0, y0, ([] : List Ur), a0.1, a0.2.1, 0, ()) with
 | none => none
 | some r => match r with
 | .inl (o2, o3, o4, _) => some ((o2, (o3, ())), ([] : List Ur), o4, ())
 | .inr r => match r with
 | .inl (o5, o6, o7, o8, _) => some ((o7, (o8, ())), o6, 0, ())
 | .inr _ => none
def UK [Lk] := fun v => Lk.f (RH v)
theorem AG2 v : UK v = RH v := AK _
abbrev Sf : AE := [(.tmp 0, .dat Ua)]
abbrev Se : AE := [(.tmp 0, .dat .bool)]
abbrev Sd : List RS := [.one]
abbrev ZB : AE := [(.tmp 1, .box 2), (.cell 0 0, .di), (.cell 0 1, .dat Un), (.tmp 6, .di), (.tmp 7, .di), (.tmp 11, .di)]
abbrev Y7 : Am := [(.ret, [(.tmp 2, .dat .bool)]), (.exit 6, [(.tmp 1, .box 2), (.cell 0 0, .di), (.cell 0 1, .dat Un), (.tmp 6, .di), (.tmp 7, .di)])]
def Cx [Lk] : (Int × List U1 × Int × Int × Int × Unit) → Option ((Int × List U1 × Int × Int × Int × Unit) ⊕ Uf ⊕ Ut ⊕ Unit) := fun (a0, a1, a2, a3, a4, _) =>
 match (ilt a4 a0) with
 | true => match E2 ((a0, (a1, ())), a4, a3, ()) with
  | none => none
  | some (y0, _) => match (ilt (imax 1 a2) (AO y0)) with
  | true => some (.inr (.inl (false, ())))
  | false => some (.inl (a0, a1, a2, a3, (IntKind.wrap .i64 (a4 + 1)), ()))
 | false => some (.inr (.inr (.inl (a0, a1, a2, a3, ()))))
abbrev ZC : AE := [(.tmp 1, .box 2), (.cell 0 0, .di), (.cell 0 1, .dat Un), (.tmp 6, .di), (.tmp 7, .di), (.tmp 8, .own 3 U2), (.tmp 9, .di)]
abbrev Y8 : Am := [(.ret, [(.tmp 2, .dat .bool)]), (.exit 4, [(.tmp 1, .box 2), (.cell 0 0, .di), (.cell 0 1, .dat Un), (.tmp 6, .di), (.tmp 7, .di)])]
def Cy [Lk] : (Int × List U1 × Int × Int × List Int × Int × Unit) → Option ((Int × List U1 × Int × Int × List Int × Int × Unit) ⊕ Uf ⊕ Ut ⊕ Unit) := fun (a0, a1, a2, a3, a4, a5, _) =>
 match (ilt a5 (AO a1)) with
 | true => match idx a1 a5 with
  | none => none
  | some x0 => match (!x0.2.2.2.1) with
  | true => match (ieq x0.2.2.1 a3) with
   | true => match idx a4 x0.1 with
    | none => none
    | some x1 => match idx a4 x0.2.1 with
    | none => none
    | some x2 => match (!(ieq (AS a4 (AJ x0.1) 0) (AS a4 (AJ x0.2.1) 0))) with
    | true => some (.inr (.inl (false, ())))
    | false => some (.inl (a0, a1, a2, a3, a4, (IntKind.wrap .i64 (a5 + 1)), ()))
   | false => some (.inl (a0, a1, a2, a3, a4, (IntKind.wrap .i64 (a5 + 1)), ()))
  | false => some (.inl (a0, a1, a2, a3, a4, (IntKind.wrap .i64 (a5 + 1)), ()))
 | false => some (.inr (.inr (.inl (a0, a1, a2, a3, ()))))
abbrev ZD : AE := [(.tmp 1, .box 2), (.cell 0 0, .di), (.cell 0 1, .dat Un), (.tmp 6, .di), (.tmp 7, .di)]
abbrev Y9 : Am := [(.ret, [(.tmp 2, .dat .bool)]), (.exit 2, [])]
def Dq [Lk] : Ut → Option (Ut ⊕ Uf ⊕ (Unit) ⊕ Unit) := fun (a0, a1, a2, a3, _) =>
 match Ke (a0, ()) with
 | none => none
 | some (y0, _) => match (ile a3 y0) with
 | true => match GR ((a0, (a1, ())), a3, ()) with
  | none => none
  | some (y1, _) => match Cm (a0, y1, ()) with
  | none => none
  | some (y2, _) => match AT Cy many (a0, a1, a2, a3, y2, 0, ()) with
  | none => none
  | some r => match r with
  | .inl (o3, _) => some (.inr (.inl (o3, ())))
  | .inr r => match r with
  | .inl (o4, o5, o6, o7, _) => match AT Cx many (o4, o5, o6, o7, 0, ()) with
   | none => none
   | some r => match r with
   | .inl (o8, _) => some (.inr (.inl (o8, ())))
   | .inr r => match r with
   | .inl (o9, o10, o11, o12, _) => match quo? .i64 o11 2 with
    | none => none
    | some x13 => some (.inl (o9, o10, x13, (IntKind.wrap .i64 (o12 + 1)), ()))
   | .inr _ => none
  | .inr _ => none
 | false => some (.inr (.inr (.inl ())))
abbrev ZE : AE := [(.tmp 1, .box 2), (.cell 0 0, .di), (.cell 0 1, .dat Un), (.tmp 3, .own 3 U2), (.tmp 4, .own 3 U2), (.tmp 5, .di)]
abbrev ZA : Am := [(.ret, [(.tmp 2, .dat .bool)]), (.exit 0, [(.tmp 1, .box 2), (.cell 0 0, .di), (.cell 0 1, .dat Un)])]
def Dr [Lk] : (Int × List U1 × List Int × List Int × Int × Unit) → Option ((Int × List U1 × List Int × List Int × Int × Unit) ⊕ Uf ⊕ (Int × List U1 × Unit) ⊕ Unit) := fun (a0, a1, a2, a3, a4, _) =>
 match (ilt a4 a0) with
 | true => match idx a2 a4 with
  | none => none
  | some x0 => match idx a3 a4 with
  | none => none
  | some x1 => match (!(ieq (AS a2 (AJ a4) 0) (AS a3 (AJ a4) 0))) with
  | true => some (.inr (.inl (false, ())))
  | false => some (.inl (a0, a1, a2, a3, (IntKind.wrap .i64 (a4 + 1)), ()))
 | false => some (.inr (.inr (.inl (a0, a1, ()))))
def Mi [Lk] : V4 → Option (Uf) := fun (a0, _) =>
 match Bg ((a0.1, (a0.2.1, ())), ()) with
 | none => none
 | some (y0, _) => match (!y0) with
 | true => some (false, ())
 | false => match KB ((a0.1, (a0.2.1, ())), ()) with
 | none => none
 | some (y1, _) => match Cm (a0.1, y1, ()) with
 | none => none
 | some (y2, _) => match GR ((a0.1, (a0.2.1, ())), 0, ()) with
 | none => none
 | some (y3, _) => match Cm (a0.1, y3, ()) with
 | none => none
 | some (y4, _) => match AT Dr many (a0.1, a0.2.1, y2, y4, 0, ()) with
 | none => none
 | some r => match r with
 | .inl (o5, _) => some (o5, ())
 | .inr r => match r with
 | .inl (o6, o7, _) => match AT Dq many (o6, o7, o6, 0, ()) with
  | none => none
  | some r => match r with
  | .inl (o8, _) => some (o8, ())
  | .inr r => match r with
  | .inl _ => some (true, ())
  | .inr _ => none
 | .inr _ => none
def Jk [Lk] := fun v => Lk.f (Mi v)
theorem ZF v : Jk v = Mi v := AK _
abbrev VF : AE := []
abbrev VE : AE := [(.tmp 0, .dat .bool)]
abbrev VD : List RS := [.one]
def VG [Lk] : (Unit) → Option (Uf) := fun _ =>
 match Zg ((4, (([(0, (1, (0, (true, ())))), (0, (2, (0, (true, ())))), (1, (2, (1, (false, ()))))] : List U1), ())), ()) with
 | none => none
 | some (y0, y1, _) => match Zg ((0, (([] : List U1), ())), ()) with
 | none => none
 | some (y2, y3, _) => match (ieq y1 0) with
 | true => match (ieq y3 1) with
  | true => match GV ((4, (([(0, (1, (1, (true, ())))), (0, (2, (0, (true, ())))), (1, (2, (0, (false, ()))))] : List U1), ())), ()) with
   | none => none
   | some (y4, _) => match y4 with
   | true => match Mk ((4, (([(0, (1, (0, (true, ())))), (0, (2, (0, (true, ())))), (1, (2, (1, (false, ()))))] : List U1), ())), ()) with
    | none => none
    | some (y5, _) => match (!y5) with
    | true => match Kz ((4, (([(0, (1, (0, (true, ())))), (0, (2, (0, (true, ())))), (1, (2, (1, (false, ()))))] : List U1), ())), ()) with
     | none => none
     | some (y6, _) => match y6 with
     | true => match Kz ((4, (([(0, (1, (0, (false, ()))))] : List U1), ())), ()) with
      | none => none
      | some (y7, _) => match (!y7) with
      | true => match Ep ((4, (([(0, (1, (0, (false, ()))))] : List U1), ())), ()) with
       | none => none
       | some (y8, _) => match y8 with
       | true => match Ep ((3, (([(0, (1, (1, (true, ()))))] : List U1), ())), ()) with
        | none => none
        | some (y9, _) => match (!y9) with
        | true => match P5 ((4, (([(0, (1, (0, (true, ())))), (0, (2, (0, (true, ())))), (1, (2, (1, (false, ()))))] : List U1), ())), ()) with
         | none => none
         | some (y10, _) => match (ieq y10 1) with
         | true => match Kx ((4, (([(0, (1, (0, (true, ())))), (0, (2, (0, (true, ())))), (1, (2, (1, (false, ()))))] : List U1), ())), ()) with
          | none => none
          | some (y11, _) => match (ieq y11 0) with
          | true => match Kx ((4, (([(0, (1, (1, (true, ())))), (0, (2, (0, (true, ())))), (1, (2, (0, (false, ()))))] : List U1), ())), ()) with
           | none => none
           | some (y12, _) => match (ieq y12 1) with
           | true => match AI4 (y0, ([(1, (2, ())), (0, (1, ()))] : List U3), ()) with
            | none => none
            | some (y13, _) => some (y13, ())
           | false => some (false, ())
          | false => some (false, ())
         | false => some (false, ())
        | false => some (false, ())
       | false => some (false, ())
      | false => some (false, ())
     | false => some (false, ())
    | false => some (false, ())
   | false => some (false, ())
  | false => some (false, ())
 | false => some (false, ())
def IJ [Lk] := fun v => Lk.f (VG v)
theorem AVv v : IJ v = VG v := AK _
abbrev UC : AE := [(.tmp 0, .dat Ua)]
abbrev UB : AE := [(.tmp 0, .dat .bool)]
abbrev UA : List RS := [.one]
def ND [Lk] : V4 → Option (Uf) := fun (a0, _) =>
 match (ilt 30 (AO a0.2.1)) with
 | true => some (true, ())
 | false => some ((ilt 12 a0.1), ())
def NF [Lk] := fun v => Lk.f (ND v)
theorem ACS v : NF v = ND v := AK _
abbrev Jj : AE := [(.tmp 0, .dat Ua), (.tmp 1, .dat Ul), (.tmp 2, .dat Ul)]
abbrev Ji : AE := [(.tmp 0, .dat .bool)]
abbrev Jh : List RS := [.one]
def GU [Lk] : (Uc × List U3 × List U3 × Unit) → Option (Uf) := fun (a0, a1, a2, _) =>
 match IJ () with
 | none => none
 | some (y0, _) => match (!y0) with
 | true => some (false, ())
 | false => match NF ((a0.1, (a0.2.1, ())), ()) with
 | none => none
 | some (y1, _) => match y1 with
 | true => some (true, ())
 | false => match (ilt 12 (AO a1)) with
 | true => some (true, ())
 | false => match (ilt 12 (AO a2)) with
 | true => some (true, ())
 | false => match GV ((a0.1, (a0.2.1, ())), ()) with
 | none => none
 | some (y2, _) => match (!y2) with
 | true => some (true, ())
 | false => match AHD ((a0.1, (a0.2.1, ())), a1, ()) with
 | none => none
 | some (y3, y4, y5, y6, _) => match (!(ieq y6 0)) with
 | true => match (ieq y6 10) with
  | true => some (true, ())
  | false => some ((ieq y6 2), ())
 | false => match UK ((y3, (y4, ())), a2, ()) with
 | none => none
 | some (y7, y8, y9, _) => match GV ((y3, (y4, ())), ()) with
 | none => none
 | some (y10, _) => match y10 with
 | true => match (ieq y9 0) with
  | true => match GV ((y7.1, (y7.2.1, ())), ()) with
   | none => none
   | some (y11, _) => match y11 with
   | true => match Jk ((y3, (y4, ())), ()) with
    | none => none
    | some (y12, _) => some (y12, ())
   | false => match (ieq y9 10) with
   | true => match Jk ((y3, (y4, ())), ()) with
    | none => none
    | some (y13, _) => some (y13, ())
   | false => some (false, ())
  | false => match (ieq y9 10) with
  | true => match Jk ((y3, (y4, ())), ()) with
   | none => none
   | some (y14, _) => some (y14, ())
  | false => some (false, ())
 | false => some (false, ())
def Eo [Lk] := fun v => Lk.f (GU v)
theorem Np v : Eo v = GU v := AK _
end
end Go.Pev
end
section
namespace Go.Pev
set_option maxRecDepth 100000
noncomputable section
attribute [local irreducible] Nx J8 Oz Nn AeU AeV AeW QR AAe Zu Zt L0 AW many IntKind.wrap AO Ap AS Aq DG DU JK AJ CZ CF imax Ad Al
end
end Go.Pev
end
section

end
section
namespace Go.Pev.Pl
theorem Ag {n : Int} (h : -9223372036854775808 ≤ n ∧ n ≤ 9223372036854775807) : IntKind.wrap .i64 n = n := IntWalk.i64_in n h
theorem AaG {σ ρ : Type} {step : σ → Option (σ ⊕ ρ)} (I : σ → Prop) (Q : ρ → Prop) (m : σ → Nat)
  (h : ∀ v, I v → (∃ v', step v = some (.inl v') ∧ I v' ∧ m v' < m v) ∨ (∃ r, step v = some (.inr r) ∧ Q r)) :
  ∀ n v, I v → m v < n → ∃ r, AW step n v = some r ∧ Q r := by
 intro n
 induction n with
 | zero => intro v _ hn; omega
 | succ n ih =>
  intro v hv hn
  rcases h v hv with ⟨v', e, hi, hm⟩ | ⟨r, e, hq⟩
  ·rw [AW, e]
   exact ih v' hi (by omega)
  ·rw [AW, e]
   exact ⟨r, rfl, hq⟩
theorem AUP {σ ρ : Type} {step : σ → Option (σ ⊕ ρ)} (I : σ → Prop) (Q : ρ → Prop) (m : σ → Nat)
  (h : ∀ v, I v → (∃ v', step v = some (.inl v') ∧ I v' ∧ m v' < m v) ∨ (∃ r, step v = some (.inr r) ∧ Q r))
  (v : σ) (hi : I v) (hm : m v < many) : ∃ r, AT step many v = some r ∧ Q r := by
 rw [Aj]
 exact AaG I Q m h many v hi hm
section
set_option linter.unusedSectionVars false
variable {α : Type} [Inhabited α]
theorem Aw {d : Array α} {n : Nat} (h : n < d.size) : idx d.toList (n : Int) = some d[n]! := by
 rw [idx_eq, Oz, if_neg (by omega)]
 simp [h]
theorem BR {d : Array α} {n : Nat} {z : α} (h : n < d.size) : AS d.toList (AJ (n : Int)) z = d[n]! := by
 simp [AS, AJ, h]
theorem IE {d : Array α} {n : Nat} {x : α} : Ap d.toList (AJ (n : Int)) x = (d.setIfInBounds n x).toList := by
 simp [Ap, AJ]
theorem AXW {d : Array α} : AO d.toList = (d.size : Int) := by simp [AO]
theorem Ix (d : Array α) (i j : Nat) : (d.setIfInBounds i d[j]!).setIfInBounds j d[i]! = Go.Sort.swp d i j := rfl
theorem size_swp (d : Array α) (i j : Nat) : (Go.Sort.swp d i j).size = d.size := by simp [Go.Sort.swp]
end
theorem AM (a b : Nat) : ilt (a : Int) (b : Int) = decide (a < b) := by rw [Ah]; simp
theorem CY (a b : Nat) : ile (a : Int) (b : Int) = decide (a ≤ b) := by rw [An]; simp
theorem Xt (a b : Nat) : ieq (a : Int) (b : Int) = decide (a = b) := by
 rw [HJ]
 by_cases h : a = b
 ·simp [h]
 ·simp [h]; omega
section
theorem wrap_add {a b : Nat} (h : a + b < 9223372036854775808) : IntKind.wrap .i64 ((a : Int) + (b : Int)) = ((a + b : Nat) : Int) := by rw [Ag (by omega)]; omega
theorem AN {a : Nat} (h : a + 1 < 9223372036854775808) : IntKind.wrap .i64 ((a : Int) + 1) = ((a + 1 : Nat) : Int) := by rw [Ag (by omega)]; omega
theorem AXo {a : Nat} (h : 2 * a < 9223372036854775808) : IntKind.wrap .i64 ((2 : Int) * (a : Int)) = ((2 * a : Nat) : Int) := by rw [Ag (by omega)]; omega
theorem AXn {a : Nat} (h : a < 9223372036854775808) : IntKind.wrap .i64 ((a : Int) * 1) = ((a * 1 : Nat) : Int) := by rw [Ag (by omega)]; omega
theorem Mc {a : Nat} (h : a * 2 < 9223372036854775808) : IntKind.wrap .i64 ((a : Int) * 2) = ((a * 2 : Nat) : Int) := by rw [Ag (by omega)]; omega
theorem AXm {a : Nat} (h : a * 3 < 9223372036854775808) : IntKind.wrap .i64 ((a : Int) * 3) = ((a * 3 : Nat) : Int) := by rw [Ag (by omega)]; omega
theorem Dc {a b : Nat} (h : b ≤ a ∧ a < 9223372036854775808) : IntKind.wrap .i64 ((a : Int) - (b : Int)) = ((a - b : Nat) : Int) := by rw [Ag (by omega)]; omega
theorem A9 {a : Nat} (h : 1 ≤ a ∧ a < 9223372036854775808) : IntKind.wrap .i64 ((a : Int) - 1) = ((a - 1 : Nat) : Int) := by rw [Ag (by omega)]; omega
theorem Ahi {a : Nat} (h : a < 9223372036854775808) : quo? .i64 (a : Int) 2 = some ((a / 2 : Nat) : Int) := by
 rw [Oc, QR, if_neg (by omega), Int.tdiv_eq_ediv_of_nonneg (by omega), Ag (by omega)]; rfl
theorem AWf {a : Nat} (h : a < 9223372036854775808) : quo? .i64 (a : Int) 4 = some ((a / 4 : Nat) : Int) := by
 rw [Oc, QR, if_neg (by omega), Int.tdiv_eq_ediv_of_nonneg (by omega), Ag (by omega)]; rfl
theorem Aib {a : Nat} (h : a < 9223372036854775808) : quo? .i64 (a : Int) 8 = some ((a / 8 : Nat) : Int) := by
 rw [Oc, QR, if_neg (by omega), Int.tdiv_eq_ediv_of_nonneg (by omega), Ag (by omega)]; rfl
end
end Go.Pev.Pl
end
section
namespace Go.Pev.Pl
section
variable {α : Type}
theorem Bf {xs : List α} {n : Nat} (z : α) (h : n < xs.length) : idx xs (n : Int) = some (xs.getD n z) := by
 rw [idx_eq, Oz, if_neg (by omega)]
 simp [h]
theorem AKW (xs : List α) (n : Nat) : idx xs (n : Int) = xs[n]? := by
 rw [idx_eq, Oz, if_neg (by omega)]
 simp
theorem EX (xs : List α) : idx xs (0 : Int) = xs.head? := by
 rw [idx_eq, Oz, if_neg (by omega)]
 cases xs <;> rfl
theorem D0 (xs : List α) (n : Nat) (z : α) : AS xs (AJ (n : Int)) z = xs.getD n z := by simp [AS, AJ]
theorem PI (xs : List α) (n : Nat) (x : α) : Ap xs (AJ (n : Int)) x = xs.set n x := by simp [Ap, AJ]
theorem AL (xs : List α) : AO xs = (xs.length : Int) := rfl
theorem UL (n : Nat) : AJ (n : Int) = n := by simp [AJ]
theorem Bv (xs ys : List α) : Aq xs ys = xs ++ ys := rfl
theorem AIC {xs : List α} {l h : Nat} (h1 : l ≤ h) (h2 : h ≤ xs.length) : CM xs (l : Int) (h : Int) = some ((xs.take h).drop l) := by
 rw [Xe, Nn, if_pos (by omega)]
 simp
end
theorem A2 {n : Int} (h : n ≤ 4294967296) : fits n = true := (Lo n).2 h
theorem ACN {α β : Type} (xs : List α) (ys : List β) : ieq (AO xs) (AO ys) = decide (xs.length = ys.length) := by rw [AL, AL, Xt]
theorem Ai (a b : Int) : ieq a b = decide (a = b) := by
 rw [HJ]
 by_cases h : a = b <;> simp [h]
def walk {α β ρ : Type} (f : β → α → α ⊕ ρ) (fin : α → ρ) : List β → α → ρ
 | [], a => fin a
 | x :: xs, a => match f x a with
  | .inl a => walk f fin xs a
  | .inr r => r
theorem AXq {σ ρ α β : Type} {step : σ → Option (σ ⊕ ρ)} (st : Nat → α → σ) (xs : List β) (f : β → α → α ⊕ ρ) (fin : α → ρ) (I : Nat → α → Prop)
  (h : ∀ i x a, i < xs.length → xs[i]? = some x → I i a → (∀ a', f x a = .inl a' → step (st i a) = some (.inl (st (i + 1) a')) ∧ I (i + 1) a') ∧ (∀ r, f x a = .inr r → step (st i a) = some (.inr r)))
  (hN : ∀ a, I xs.length a → step (st xs.length a) = some (.inr (fin a))) :
  ∀ (m i n : Nat) (a : α), xs.length - i = m → i ≤ xs.length → m < n → I i a → AW step n (st i a) = some (walk f fin (xs.drop i) a) := by
 intro m
 induction m with
 | zero =>
  intro i n a hk hi hn hI
  obtain ⟨n, rfl⟩ : ∃ k, n = k + 1 := ⟨n - 1, by omega⟩
  have e : i = xs.length := by omega
  subst e
  rw [AW, hN a hI, List.drop_length]
  rfl
 | succ m ih =>
  intro i n a hk hi hn hI
  obtain ⟨n, rfl⟩ : ∃ k, n = k + 1 := ⟨n - 1, by omega⟩
  have hi' : i < xs.length := by omega
  obtain ⟨g1, g2⟩ := h i xs[i] a hi' (by simp [hi']) hI
  rw [List.drop_eq_getElem_cons hi', walk, AW]
  cases hf : f xs[i] a with
  | inl a' =>
   obtain ⟨e, hI'⟩ := g1 a' hf
   rw [e]
   exact ih (i + 1) n a' (by omega) (by omega) (by omega) hI'
  | inr r => rw [g2 r hf]
theorem B9 {σ ρ α β : Type} {step : σ → Option (σ ⊕ ρ)} (st : Nat → α → σ) (xs : List β) (f : β → α → α ⊕ ρ) (fin : α → ρ) (I : Nat → α → Prop) (hs : xs.length < 9223372036854775808)
  (h : ∀ i x a, i < xs.length → xs[i]? = some x → I i a → (∀ a', f x a = .inl a' → step (st i a) = some (.inl (st (i + 1) a')) ∧ I (i + 1) a') ∧ (∀ r, f x a = .inr r → step (st i a) = some (.inr r)))
  (hN : ∀ a, I xs.length a → step (st xs.length a) = some (.inr (fin a))) (a : α) (h0 : I 0 a) : AT step many (st 0 a) = some (walk f fin xs a) := by
 have hm : 9223372036854775808 < many := by simp only [many]; omega
 rw [Aj, AXq st xs f fin I h hN xs.length 0 many a (by omega) (by omega) (by omega) h0]
 rfl
theorem Gc {α : Type} {xs ys : List α} (z : α) (hl : xs.length = ys.length) (h : ∀ j, j < xs.length → xs.getD j z = ys.getD j z) : xs = ys := by
 apply List.ext_getElem hl
 intro i h1 h2
 have := h i h1
 simpa [h1, h2] using this
theorem WR {α : Type} {xs ys : List α} (z : α) {j : Nat} (h : xs.getD j z ≠ ys.getD j z) : xs ≠ ys := fun e => h (by rw [e])
theorem AYs {σ ρ : Type} {step : σ → Option (σ ⊕ ρ)} (st : Nat → σ) (N : Nat) (P : Nat → Bool) (rt : Nat → ρ) (rf : ρ)
  (h : ∀ i, i < N → step (st i) = if P i then some (.inr (rt i)) else some (.inl (st (i + 1)))) (hN : step (st N) = some (.inr rf)) :
  ∀ (m i n : Nat), N - i = m → i ≤ N → m < n → (∃ k, i ≤ k ∧ k < N ∧ P k = true ∧ (∀ j, i ≤ j → j < k → P j = false) ∧ AW step n (st i) = some (rt k)) ∨ ((∀ j, i ≤ j → j < N → P j = false) ∧ AW step n (st i) = some rf) := by
 intro m
 induction m with
 | zero =>
  intro i n hk hi hn
  obtain ⟨n, rfl⟩ : ∃ k, n = k + 1 := ⟨n - 1, by omega⟩
  have e : i = N := by omega
  subst e
  exact .inr ⟨fun j h1 h2 => by omega, by rw [AW, hN]⟩
 | succ m ih =>
  intro i n hk hi hn
  obtain ⟨n, rfl⟩ : ∃ k, n = k + 1 := ⟨n - 1, by omega⟩
  have hi' : i < N := by omega
  cases hP : P i
  ·have e : AW step (n + 1) (st i) = AW step n (st (i + 1)) := by rw [AW, h i hi', hP]; rfl
   rw [e]
   rcases ih (i + 1) n (by omega) (by omega) (by omega) with ⟨k, h1, h2, h3, h4, h5⟩ | ⟨h1, h2⟩
   ·refine .inl ⟨k, by omega, h2, h3, fun j a1 a2 => ?_, h5⟩
    by_cases ej : j = i
    ·subst ej; exact hP
    ·exact h4 j (by omega) a2
   ·refine .inr ⟨fun j a1 a2 => ?_, h2⟩
    by_cases ej : j = i
    ·subst ej; exact hP
    ·exact h1 j (by omega) a2
  ·exact .inl ⟨i, Nat.le_refl _, hi', hP, fun j a1 a2 => by omega, by rw [AW, h i hi', hP]; rfl⟩
theorem AWY {σ ρ : Type} {step : σ → Option (σ ⊕ ρ)} (st : Nat → σ) (N : Nat) (P : Nat → Bool) (rt : Nat → ρ) (rf : ρ) (hs : N < 9223372036854775808)
  (h : ∀ i, i < N → step (st i) = if P i then some (.inr (rt i)) else some (.inl (st (i + 1)))) (hN : step (st N) = some (.inr rf)) :
  (∃ k, k < N ∧ P k = true ∧ (∀ j, j < k → P j = false) ∧ AT step many (st 0) = some (rt k)) ∨ ((∀ j, j < N → P j = false) ∧ AT step many (st 0) = some rf) := by
 have hm : 9223372036854775808 < many := by simp only [many]; omega
 rw [Aj]
 rcases AYs st N P rt rf h hN N 0 many rfl (by omega) (by omega) with ⟨k, h1, h2, h3, h4, h5⟩ | ⟨h1, h2⟩
 ·exact .inl ⟨k, h2, h3, fun j a => h4 j (by omega) a, h5⟩
 ·exact .inr ⟨fun j a => h1 j (by omega) a, h2⟩
end Go.Pev.Pl
end
section
namespace Go.Pev.Pl
inductive Tok where
 | ver (v : Int)
 | arc (u v : Int)
 deriving DecidableEq
namespace Tok
def st : Tok → Int
 | .ver v => v
 | .arc _ v => v
def step (s : List Int × List Int) : Tok → Option (List Int × List Int)
 | .ver v => match s.1 with
  | w :: _ => if w = v then some s else none
  | [] => none
 | .arc u v => match s.1 with
  | w :: r => if w = u then match r with
    | p :: r' => if p = v then some (p :: r', s.2) else if v ∈ s.2 then none else some (v :: w :: r, v :: s.2)
    | [] => if v ∈ s.2 then none else some (v :: w :: r, v :: s.2)
   else none
  | [] => none
def run : List Int × List Int → List Tok → Option (List Int × List Int)
 | s, [] => some s
 | s, t :: l => match step s t with
  | some s => run s l
  | none => none
theorem C1 (s : List Int × List Int) (a b : List Tok) : run s (a ++ b) = (run s a).bind fun s => run s b := by
 induction a generalizing s with
 | nil => rfl
 | cons t a ih =>
  simp only [List.cons_append, run]
  cases step s t with
  | none => rfl
  | some s => exact ih s
theorem Bh {s s' : List Int × List Int} {t : Tok} (h : step s t = some s') :
  (∃ v r, t = .ver v ∧ s.1 = v :: r ∧ s' = s) ∨
  (∃ u v r, t = .arc u v ∧ s.1 = u :: v :: r ∧ s' = (v :: r, s.2)) ∨
  (∃ u v r, t = .arc u v ∧ s.1 = u :: r ∧ r.head? ≠ some v ∧ v ∉ s.2 ∧ s' = (v :: u :: r, v :: s.2)) := by
 obtain ⟨way, c⟩ := s
 cases t with
 | ver v =>
  cases way with
  | nil => simp [step] at h
  | cons w r =>
   simp only [step] at h
   split at h
   ·rename_i e; cases h; exact .inl ⟨v, r, rfl, by simp [e], rfl⟩
   ·cases h
 | arc u v =>
  cases way with
  | nil => simp [step] at h
  | cons w r =>
   simp only [step] at h
   split at h
   ·rename_i e
    subst e
    cases r with
    | nil =>
     simp only at h
     split at h
     ·cases h
     ·rename_i hc; cases h; exact .inr (.inr ⟨w, v, [], rfl, rfl, by simp, hc, rfl⟩)
    | cons p r =>
     simp only at h
     split at h
     ·rename_i e; subst e; cases h; exact .inr (.inl ⟨w, p, r, rfl, rfl, rfl⟩)
     ·split at h
      ·cases h
      ·rename_i e hc; cases h; exact .inr (.inr ⟨w, v, p :: r, rfl, rfl, by simpa using e, hc, rfl⟩)
   ·cases h
theorem Cw (v : Int) (r c : List Int) : step (v :: r, c) (.ver v) = some (v :: r, c) := by simp [step]
theorem Fi (u v : Int) (r c : List Int) : step (u :: v :: r, c) (.arc u v) = some (v :: r, c) := by simp [step]
theorem En (u v : Int) (r c : List Int) (h1 : r.head? ≠ some v) (h2 : v ∉ c) : step (u :: r, c) (.arc u v) = some (v :: u :: r, v :: c) := by
 cases r with
 | nil => simp [step, h2]
 | cons p r =>
  have : p ≠ v := by simpa using h1
  simp [step, h2, this]
def Inv (s : List Int × List Int) : Prop := s.1.Nodup ∧ (∀ x ∈ s.1, x ∈ s.2)
theorem Yr {s s' : List Int × List Int} {t : Tok} (h : step s t = some s') (hi : Inv s) : Inv s' ∧ (∀ x ∈ s.2, x ∈ s'.2) ∧ s'.1.head? = some t.st := by
 obtain ⟨way, c⟩ := s
 obtain ⟨h1, h2⟩ := hi
 rcases Bh h with ⟨v, r, rfl, hw, rfl⟩ | ⟨u, v, r, rfl, hw, rfl⟩ | ⟨u, v, r, rfl, hw, _, hn, rfl⟩
 ·exact ⟨⟨h1, h2⟩, fun x hx => hx, by rw [hw]; rfl⟩
 ·simp only at hw h1 h2
  subst hw
  refine ⟨⟨?_, ?_⟩, fun x hx => hx, rfl⟩
  ·exact (List.nodup_cons.1 h1).2
  ·intro x hx; exact h2 x (by simp only at hx; simp [List.mem_cons.1 hx])
 ·simp only at hw h1 h2 hn
  subst hw
  refine ⟨⟨?_, ?_⟩, fun x hx => by simp [hx], rfl⟩
  ·exact List.nodup_cons.2 ⟨fun hm => hn (h2 _ hm), h1⟩
  ·intro x hx
   rcases List.mem_cons.1 hx with rfl | hx
   ·simp
   ·exact List.mem_cons_of_mem _ (h2 x hx)
theorem Hr {l : List Tok} : ∀ {s s' : List Int × List Int}, run s l = some s' → Inv s → Inv s' ∧ (∀ x ∈ s.2, x ∈ s'.2) ∧ ∀ t, l.getLast? = some t → s'.1.head? = some t.st := by
 induction l with
 | nil => intro s s' h hi; cases h; exact ⟨hi, fun x hx => hx, fun t ht => by simp at ht⟩
 | cons t l ih =>
  intro s s' h hi
  simp only [run] at h
  split at h
  ·rename_i s1 h1
   obtain ⟨q1, q2, q3⟩ := Yr h1 hi
   obtain ⟨p1, p2, p3⟩ := ih h q1
   refine ⟨p1, fun x hx => p2 x (q2 x hx), fun t' ht' => ?_⟩
   cases l with
   | nil => simp at ht'; subst ht'; simp only [run] at h; cases h; exact q3
   | cons y l => exact p3 t' (by rw [List.getLast?_cons_cons] at ht'; exact ht')
  ·cases h
theorem Gq {Z : Int → Prop} : ∀ {l : List Tok} {way way' c d c2 low : List Int}, run (way, c) l = some (way', d) → way ≠ [] → (∀ x, x ∈ c2 ↔ x ∈ c ∨ Z x) →
  (∀ u v, .arc u v ∈ l → ¬ Z v) → (∀ y ∈ low, Z y) → ∃ d2, run (way ++ low, c2) l = some (way' ++ low, d2) ∧ (∀ x, x ∈ d2 ↔ x ∈ d ∨ Z x) := by
 intro l
 induction l with
 | nil => intro way way' c d c2 low h _ hc _ _; cases h; exact ⟨c2, rfl, hc⟩
 | cons t l ih =>
  intro way way' c d c2 low h hne hc hz hl
  simp only [run] at h
  split at h
  ·rename_i s1 h1
   have hz' : ∀ u v, Tok.arc u v ∈ l → ¬ Z v := fun u v hm => hz u v (List.mem_cons_of_mem _ hm)
   rcases Bh h1 with ⟨v, r, rfl, hw, rfl⟩ | ⟨u, v, r, rfl, hw, rfl⟩ | ⟨u, v, r, rfl, hw, hh, hn, rfl⟩
   ·simp only at hw
    subst hw
    obtain ⟨d2, e1, e2⟩ := ih h hne hc hz' hl
    exact ⟨d2, by simp only [run, List.cons_append, Cw]; exact e1, e2⟩
   ·simp only at hw
    subst hw
    obtain ⟨d2, e1, e2⟩ := ih h (by simp) hc hz' hl
    exact ⟨d2, by simp only [run, List.cons_append, Fi]; exact e1, e2⟩
   ·simp only at hw hn
    subst hw
    have hzv := hz u v (by simp)
    have hn2 : v ∉ c2 := by rw [hc]; rintro (h | h); exact hn h; exact hzv h
    have hh2 : (r ++ low).head? ≠ some v := by
     cases r with
     | nil =>
      cases low with
      | nil => simp
      | cons y low =>
       simp only [List.nil_append, List.head?_cons, ne_eq, Option.some.injEq]
       rintro rfl
       exact hzv (hl _ (by simp))
     | cons p r => simpa using hh
    obtain ⟨d2, e1, e2⟩ := ih (c2 := v :: c2) h (by simp) (by intro x; simp only [List.mem_cons, hc, or_assoc]) hz' hl
    exact ⟨d2, by simp only [run, List.cons_append, En _ _ _ _ hh2 hn2]; exact e1, e2⟩
  ·cases h
theorem AAG {z : Int} : ∀ {l : List Tok} {way way' c2 d2 c : List Int}, run (way, c2) l = some (way', d2) → z ∉ way → (∀ x, x ∈ c2 ↔ x ∈ c ∨ x = z) → z ∉ c →
  .ver z ∉ l ∧ ∃ d, run (way, c) l = some (way', d) ∧ (∀ x, x ∈ d2 ↔ x ∈ d ∨ x = z) ∧ z ∉ d := by
 intro l
 induction l with
 | nil => intro way way' c2 d2 c h _ hc hz; cases h; exact ⟨by simp, c, rfl, hc, hz⟩
 | cons t l ih =>
  intro way way' c2 d2 c h hzw hc hz
  simp only [run] at h
  split at h
  ·rename_i s1 h1
   rcases Bh h1 with ⟨v, r, rfl, hw, rfl⟩ | ⟨u, v, r, rfl, hw, rfl⟩ | ⟨u, v, r, rfl, hw, hh, hn, rfl⟩
   ·simp only at hw
    subst hw
    obtain ⟨e0, d, e1, e2, e3⟩ := ih h hzw hc hz
    refine ⟨?_, d, by simp only [run, Cw]; exact e1, e2, e3⟩
    rintro hm
    rcases List.mem_cons.1 hm with hm | hm
    ·cases hm; exact hzw (by simp)
    ·exact e0 hm
   ·simp only at hw
    subst hw
    obtain ⟨e0, d, e1, e2, e3⟩ := ih h (fun hm => hzw (List.mem_cons_of_mem _ hm)) hc hz
    refine ⟨?_, d, by simp only [run, Fi]; exact e1, e2, e3⟩
    rintro hm
    rcases List.mem_cons.1 hm with hm | hm
    ·cases hm
    ·exact e0 hm
   ·simp only at hw hn
    subst hw
    have hvz : v ≠ z := by rintro rfl; exact hn ((hc v).2 (.inr rfl))
    have hn' : v ∉ c := fun hm => hn ((hc v).2 (.inl hm))
    obtain ⟨e0, d, e1, e2, e3⟩ := ih (c := v :: c) h (by intro hm; rcases List.mem_cons.1 hm with hm | hm; exact hvz hm.symm; exact hzw hm)
     (by intro x; simp only [List.mem_cons, hc, or_assoc])
     (by intro hm; rcases List.mem_cons.1 hm with hm | hm; exact hvz hm.symm; exact hz hm)
    refine ⟨?_, d, by simp only [run, En _ _ _ _ hh hn']; exact e1, e2, e3⟩
    rintro hm
    rcases List.mem_cons.1 hm with hm | hm
    ·cases hm
    ·exact e0 hm
  ·cases h
def Rot (a b : List Tok) : Prop := ∃ x y, a = x ++ y ∧ b = y ++ x
theorem Rot.refl (a : List Tok) : Rot a a := ⟨[], a, rfl, by simp⟩
theorem Rot.symm {a b : List Tok} (h : Rot a b) : Rot b a := by obtain ⟨x, y, h1, h2⟩ := h; exact ⟨y, x, h2, h1⟩
theorem Rot.trans {a b c : List Tok} (h : Rot a b) (g : Rot b c) : Rot a c := by
 obtain ⟨x, y, rfl, h2⟩ := h
 obtain ⟨z, w, h3, rfl⟩ := g
 rw [h2] at h3
 rcases List.append_eq_append_iff.1 h3 with ⟨k, h4, h5⟩ | ⟨k, h4, h5⟩
 ·subst h4 h5
  exact ⟨k, w ++ y, by simp, by simp⟩
 ·subst h4 h5
  exact ⟨x ++ z, k, by simp, by simp⟩
theorem Rot.perm {a b : List Tok} (h : Rot a b) : a.Perm b := by
 obtain ⟨x, y, rfl, rfl⟩ := h
 exact List.perm_append_comm
theorem Rot.mem {a b : List Tok} (h : Rot a b) (t : Tok) : t ∈ a ↔ t ∈ b := h.perm.mem_iff
theorem Rot.nodup {a b : List Tok} (h : Rot a b) : a.Nodup ↔ b.Nodup := h.perm.nodup_iff
theorem Rot.length {a b : List Tok} (h : Rot a b) : a.length = b.length := h.perm.length_eq
inductive T : List Tok → Prop
 | one (v : Int) : T [.ver v]
 | add (x : Tok) (l : List Tok) (v : Int) : T (x :: l) → x.st ≠ v → .ver v ∉ x :: l → T (x :: .arc x.st v :: .ver v :: .arc v x.st :: l)
 | rot (a b : List Tok) : T (a ++ b) → T (b ++ a)
theorem T.ATi {a b : List Tok} (h : T a) (r : Rot a b) : T b := by obtain ⟨x, y, rfl, rfl⟩ := r; exact T.rot x y h
theorem T.facts {l : List Tok} (h : T l) : l ≠ [] ∧ (∀ t ∈ l, .ver t.st ∈ l) ∧ (∀ u v, .arc u v ∈ l → .ver u ∈ l ∧ .ver v ∈ l ∧ .arc v u ∈ l ∧ u ≠ v) := by
 induction h with
 | one v => exact ⟨by simp, by simp [st], by simp⟩
 | add x l v h hne hv ih =>
  obtain ⟨_, i2, i3⟩ := ih
  have hsub : ∀ t, t ∈ x :: l → t ∈ x :: Tok.arc x.st v :: .ver v :: .arc v x.st :: l := by
   intro t ht
   rcases List.mem_cons.1 ht with rfl | ht
   ·simp
   ·simp [ht]
  have hx := hsub _ (i2 x (by simp))
  have cases3 : ∀ t, t ∈ x :: Tok.arc x.st v :: .ver v :: .arc v x.st :: l → t ∈ x :: l ∨ t = .arc x.st v ∨ t = .ver v ∨ t = .arc v x.st := by
   intro t ht
   simp only [List.mem_cons] at ht ⊢
   rcases ht with h | h | h | h | h <;> simp [h]
  refine ⟨by simp, fun t ht => ?_, fun a b hab => ?_⟩
  ·rcases cases3 t ht with h | rfl | rfl | rfl
   ·exact hsub _ (i2 t h)
   ·simp [st]
   ·simp [st]
   ·exact hx
  ·rcases cases3 _ hab with h | h | h | h
   ·obtain ⟨p1, p2, p3, p4⟩ := i3 a b h
    exact ⟨hsub _ p1, hsub _ p2, hsub _ p3, p4⟩
   ·cases h; exact ⟨hx, by simp, by simp, hne⟩
   ·cases h
   ·cases h; exact ⟨by simp, hx, by simp, Ne.symm hne⟩
 | rot a b h ih =>
  obtain ⟨i1, i2, i3⟩ := ih
  have hm : ∀ t, t ∈ a ++ b ↔ t ∈ b ++ a := fun t => List.perm_append_comm.mem_iff
  refine ⟨by intro e; simp only [List.append_eq_nil_iff] at e; exact i1 (by simp [e.1, e.2]), fun t ht => (hm _).1 (i2 t ((hm _).2 ht)), fun u v huv => ?_⟩
  obtain ⟨p1, p2, p3, p4⟩ := i3 u v ((hm _).2 huv)
  exact ⟨(hm _).1 p1, (hm _).1 p2, (hm _).1 p3, p4⟩
theorem T.nodup {l : List Tok} (h : T l) : l.Nodup := by
 induction h with
 | one v => simp
 | add x l v h hne hv ih =>
  obtain ⟨_, _, f3⟩ := h.facts
  have h1 : Tok.arc x.st v ∉ x :: l := fun hm => hv (f3 _ _ hm).2.1
  have h2 : Tok.arc v x.st ∉ x :: l := fun hm => hv (f3 _ _ hm).1
  simp only [List.mem_cons, not_or] at h1 h2 hv
  have ih' := List.nodup_cons.1 ih
  simp only [List.nodup_cons, List.mem_cons, not_or]
  refine ⟨⟨fun e => h1.1 e.symm, fun e => hv.1 e.symm, fun e => h2.1 e.symm, ih'.1⟩, ⟨by simp, ?_, h1.2⟩, ⟨by simp, hv.2⟩, h2.2, ih'.2⟩
  intro e
  simp only [Tok.arc.injEq] at e
  exact hne e.1
 | rot a b h ih => exact (List.perm_append_comm.nodup_iff).1 ih
def C (l : List Tok) : Prop := ∀ r, Rot l r → ∀ t, r.getLast? = some t → ∃ c, run ([t.st], [t.st]) r = some ([t.st], c) ∧ ∀ x, x ∈ c ↔ .ver x ∈ l
end Tok
end Go.Pev.Pl
end
