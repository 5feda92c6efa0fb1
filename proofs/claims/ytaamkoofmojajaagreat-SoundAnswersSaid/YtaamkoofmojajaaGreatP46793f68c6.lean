/- A part of the proofs of this seat: G24M1 G24M2 G24M3 G24M4 G24M5 G24M Pln PlnB T18a T18b T18c PlnM. -/
import Derived.Test.YtaamkoofmojajaaGreatP59121d4206
import Derived.IntWalk
import Derived.Sort.AssemblyPlain
set_option linter.unusedVariables false
set_option linter.unusedSimpArgs false
set_option linter.unusedSectionVars false
section
namespace Go.Pev
set_option maxRecDepth 100000
noncomputable section
attribute [local irreducible] OK KL PS N5 Abq Abr Abs Qm AAQ Zf Ze KS AT many IntKind.wrap AO An AW A8 DD DS JO AM CW Cb imax Af Ak
abbrev U0 : Ty := (.prod (.int .i64) (.prod (.int .i64) (.prod (.int .i64) (.prod .bool .unit))))
abbrev U1 := (Int × Int × Int × Bool × Unit)
abbrev U2 : Ty := (.int .i64)
abbrev U3 := (List Int)
abbrev U4 := (Int × Int × Unit)
abbrev U5 : Ty := (.slice U2)
abbrev U6 := (List U3 × Int × Int × Int × Unit)
abbrev U7 : Ty := (.prod U2 (.prod U2 .unit))
abbrev U8 := (Int × Unit)
abbrev U9 : Ty := (.prod U2 (.prod (.slice U5) .unit))
abbrev Ua := (Int × (List U3) × Unit)
abbrev Ub : Ty := (.prod U2 (.prod (.slice U0) .unit))
abbrev Uc := (List U1 × Int × Int × Int × Unit)
abbrev Ud := (List U3 × Int × Int × Unit)
abbrev Ue := (Int × (List U1) × Unit)
abbrev Uf := (Bool × Unit)
abbrev Ug := (List U3 × Int × Int × Int × Int × Unit)
abbrev Uh : Ty := (.slice U5)
abbrev Ui := (List U3 × Unit)
abbrev Uj := (List Int × Int × Int × Unit)
abbrev Uk := (Int × List U1 × Int × Int × Unit)
abbrev Ul := (List Int × Unit)
abbrev Um := (List Int × Int × Unit)
abbrev Un := (List U1 × Int × Int × Int × Int × Unit)
abbrev Uo : Ty := (.slice U0)
abbrev Up := (List U1 × Int × Int × Unit)
abbrev Uq := (List U1 × Unit)
abbrev Ur := (Int × List U1 × List U4 × Int × Unit)
abbrev Us : Ty := (.slice U7)
abbrev Ut := (List U3 × Int × Int × Int × Int × Int × Unit)
abbrev Uu := (Int × List U3 × List Bool × Int × Int × Int × List Int × Int × List Int × Int × Bool × Int × List Int × Bool × Bool × List Int × List Int × List U3 × List Int × List U3 × Bool × Bool × List Int × Int × Int × Bool × Unit)
abbrev Uv := (Int × List U3 × List (Int × Int) × Int × List U3 × Int × Int × List Int × Int × Int × Bool × List Int × Bool × Bool × List Int × Int × List Int × Int × Bool × Int × List Int × Bool × Bool × List Int × Int × Int × Unit)
abbrev Uw := (Ue × Unit)
abbrev Ux := (Int × List Int × Int × List Int × Int × Bool × Bool × Bool × Bool × Int × Int × Bool × Int × Int × Int × Int × Int × Bool × Int × Int × Int × Int × Int × Int × Int × Int × Int × Bool × Unit)
abbrev Uy := (Int × Int)
abbrev Uz := (Int × List U3 × Int × Unit)
abbrev V0 := (List U4 × Unit)
abbrev V1 := (Int × List U4 × Unit)
abbrev V2 := (List U3 × Int × Unit)
abbrev V3 := (Int × List U1 × List Ua × Int × Int × Unit)
abbrev V4 := (Int × List Int × Unit)
abbrev V5 := (U6 ⊕ U6 ⊕ Unit)
abbrev V6 := (List Int × List U3 × Int × List U3 × Int × List U3 × List U3 × Int × Int × Unit)
abbrev V7 := (Int × List U1 × List Ua × Int × Int × List U3 × Int × Int × Int × Int × Unit)
abbrev V8 := (Ua × Int × Unit)
abbrev V9 := (Ua × List U4 × Unit)
abbrev Va := (Int × List U4 × List Int × Bool × Unit)
abbrev ABr : AE := [(.tmp 0, .dat U5), (.tmp 1, .dat U5)]
abbrev ABq : AE := [(.tmp 0, .dat .bool)]
abbrev ABp : List RS := [.one]
abbrev AF1 : AE := [(.tmp 0, .dat U5), (.tmp 1, .dat U5), (.tmp 5, .di)]
abbrev AF0 : Am := [(.ret, [(.tmp 4, .dat .bool)]), (.exit 0, [])]
def EB [Lk] : (List Int × List Int × Int × Unit) → Option ((List Int × List Int × Int × Unit) ⊕ Uf ⊕ (Unit) ⊕ Unit) := fun (a0, a1, a2, _) =>
 match (ilt a2 (AO a0)) with
 | true => match idx a0 a2 with
  | none => none
  | some x0 => match idx a1 a2 with
  | none => none
  | some x1 => match (!(ieq x0 x1)) with
  | true => some (.inr (.inl (false, ())))
  | false => some (.inl (a0, a1, (IntKind.wrap .i64 (a2 + 1)), ()))
 | false => some (.inr (.inr (.inl ())))
def Q7 [Lk] : (List Int × List Int × Unit) → Option (Uf) := fun (a0, a1, _) =>
 match (!(ieq (AO a0) (AO a1))) with
 | true => some (false, ())
 | false => match AR EB many (a0, a1, 0, ()) with
 | none => none
 | some r => match r with
 | .inl (o0, _) => some (o0, ())
 | .inr r => match r with
 | .inl _ => some (true, ())
 | .inr _ => none
def UL [Lk] := fun v => Lk.f (Q7 v)
theorem AF2 v : UL v = Q7 v := AK _
abbrev YU : AE := [(.tmp 0, .di)]
abbrev YT : AE := [(.tmp 0, .dat .bool)]
abbrev YS : List RS := [.one]
def QI [Lk] : U8 → Option (Uf) := fun (a0, _) =>
 match (ile 1 a0) with
 | true => some ((ile a0 64), ())
 | false => some (false, ())
def LC [Lk] := fun v => Lk.f (QI v)
theorem AEi v : LC v = QI v := AK _
abbrev AZm : AE := [(.tmp 0, .di), (.tmp 1, .di)]
abbrev AZl : AE := [(.tmp 0, .dat .bool)]
abbrev AZk : List RS := [.one]
def AUK [Lk] : U4 → Option (Uf) := fun (a0, a1, _) =>
 match LC (a0, ()) with
 | none => none
 | some (y0, _) => match y0 with
 | true => match (ile 0 a1) with
  | true => some ((ilt a1 a0), ())
  | false => some (false, ())
 | false => some (false, ())
def tin [Lk] := fun v => Lk.f (AUK v)
theorem AZn v : tin v = AUK v := AK _
abbrev APz : AE := [(.tmp 0, .di), (.tmp 1, .di), (.tmp 2, .di)]
abbrev APy : AE := [(.tmp 0, .di)]
abbrev APx : List RS := [.one]
def AHN [Lk] : (Int × Int × Int × Unit) → Option (U8) := fun (a0, a1, a2, _) =>
 match (ieq a1 a2) with
 | true => some ((-1 : Int), ())
 | false => match tin (a0, a1, ()) with
 | none => none
 | some (y0, _) => match (!y0) with
 | true => some ((-1 : Int), ())
 | false => match tin (a0, a2, ()) with
 | none => none
 | some (y1, _) => match (!y1) with
 | true => some ((-1 : Int), ())
 | false => some ((IntKind.wrap .i64 ((IntKind.wrap .i64 (a0 * (IntKind.wrap .i64 (a1 + 1)))) + a2)), ())
def AWP [Lk] := fun v => Lk.f (AHN v)
theorem AUL v : AWP v = AHN v := AK _
abbrev YQ : AE := [(.tmp 0, .di), (.tmp 1, .di)]
abbrev YP : AE := [(.tmp 0, .di), (.tmp 1, .di), (.tmp 2, .dat .bool), (.tmp 3, .dat .bool)]
abbrev YO : List RS := [.one, .one, .one, .one]
def QH [Lk] : U4 → Option ((Int × Int × Bool × Bool × Unit)) := fun (a0, a1, _) =>
 match LC (a0, ()) with
 | none => none
 | some (y0, _) => match (!y0) with
 | true => some (0, 0, false, false, ())
 | false => match (ilt a1 0) with
 | true => some (0, 0, false, false, ())
 | false => match (ile (IntKind.wrap .i64 (a0 * (IntKind.wrap .i64 (a0 + 1)))) a1) with
 | true => some (0, 0, false, false, ())
 | false => match (ilt a1 a0) with
 | true => some (a1, 0, false, true, ())
 | false => match quo? .i64 a1 a0 with
 | none => none
 | some x1 => match rem? a1 a0 with
 | none => none
 | some x2 => match (ieq (IntKind.wrap .i64 (x1 - 1)) x2) with
 | true => some (0, 0, false, false, ())
 | false => some ((IntKind.wrap .i64 (x1 - 1)), x2, true, true, ())
def YR [Lk] := fun v => Lk.f (QH v)
theorem AEh v : YR v = QH v := AK _
abbrev AHH : AE := [(.tmp 0, .di)]
abbrev AHG : AE := [(.tmp 0, .di), (.tmp 1, .own 55 U5), (.tmp 2, .di)]
abbrev AHF : List RS := [.agg 2, .one]
abbrev ALe : AE := [(.tmp 2, .box 2), (.cell 0 0, .di), (.cell 0 1, .nil U5), (.tmp 4, .box 2), (.cell 1 0, .di), (.cell 1 1, .own 55 U5), (.tmp 12, .di), (.tmp 13, .di)]
abbrev ALd : Am := [(.exit 0, [(.tmp 2, .box 2), (.cell 0 0, .di), (.cell 0 1, .nil U5), (.tmp 4, .box 2), (.cell 1 0, .di), (.cell 1 1, .own 55 U5)])]
def G4 [Lk] : (Int × Int × List U3 × Int × Int × Unit) → Option ((Int × Int × List U3 × Int × Int × Unit) ⊕ (Int × Int × List U3 × Unit) ⊕ Unit) := fun (a0, a1, a2, a3, a4, _) =>
 match (ilt a4 a3) with
 | true => match (fits ((AO a2) + (AO ([([a4] : List (Int))] : List U3)))) with
  | true => some (.inl (a0, a1, (A8 a2 ([([a4] : List (Int))] : List U3)), a3, (IntKind.wrap .i64 (a4 + 1)), ()))
  | false => none
 | false => some (.inr (.inl (a0, a1, a2, ())))
def Xj [Lk] : U8 → Option (Uz) := fun (a0, _) =>
 match LC (a0, ()) with
 | none => none
 | some (y0, _) => match (!y0) with
 | true => some (0, ([] : List U3), 1, ())
 | false => match AR G4 many (0, a0, ([] : List U3), a0, 0, ()) with
 | none => none
 | some r => match r with
 | .inl (o1, o2, o3, _) => some (o2, o3, 0, ())
 | .inr _ => none
def ALg [Lk] := fun v => Lk.f (Xj v)
theorem ALf v : ALg v = Xj v := AK _
abbrev ABz : AE := [(.tmp 0, .dat U5), (.tmp 1, .di)]
abbrev ABy : AE := [(.tmp 0, .di)]
abbrev ABx : List RS := [.one]
abbrev AF4 : AE := [(.tmp 0, .dat U5), (.tmp 1, .di), (.tmp 7, .di), (.tmp 8, .di)]
abbrev AF3 : Am := [(.ret, [(.tmp 4, .di)]), (.exit 0, [])]
def E5 [Lk] : (List Int × Int × Int × Int × Unit) → Option ((List Int × Int × Int × Int × Unit) ⊕ U8 ⊕ (Unit) ⊕ Unit) := fun (a0, a1, a2, a3, _) =>
 match (ilt a3 a2) with
 | true => match idx a0 a3 with
  | none => none
  | some x0 => match (ieq a1 x0) with
  | true => some (.inr (.inl (a3, ())))
  | false => some (.inl (a0, a1, a2, (IntKind.wrap .i64 (a3 + 1)), ()))
 | false => some (.inr (.inr (.inl ())))
def Q9 [Lk] : Um → Option (U8) := fun (a0, a1, _) =>
 match AR E5 many (a0, a1, (AO a0), 0, ()) with
 | none => none
 | some r => match r with
 | .inl (o0, _) => some (o0, ())
 | .inr r => match r with
 | .inl _ => some ((-1 : Int), ())
 | .inr _ => none
def PR [Lk] := fun v => Lk.f (Q9 v)
theorem AF5 v : PR v = Q9 v := AK _
abbrev ML : AE := [(.tmp 0, .dat U5), (.tmp 1, .di)]
abbrev MK : AE := [(.tmp 0, .dat .bool)]
abbrev MJ : List RS := [.one]
def IJ [Lk] : Um → Option (Uf) := fun (a0, a1, _) =>
 match PR (a0, a1, ()) with
 | none => none
 | some (y0, _) => some ((ile 0 y0), ())
def FK [Lk] := fun v => Lk.f (IJ v)
theorem Rd v : FK v = IJ v := AK _
abbrev AR8 : AE := [(.tmp 0, .dat U5)]
abbrev AR7 : AE := [(.tmp 0, .di)]
abbrev AR6 : List RS := [.one]
abbrev AU5 : AE := [(.tmp 0, .dat U5), (.tmp 3, .di), (.tmp 4, .di)]
abbrev AU4 : Am := [(.exit 0, [(.tmp 3, .di)])]
def KD [Lk] : Uj → Option (Uj ⊕ U8 ⊕ Unit) := fun (a0, a1, a2, _) =>
 match (ilt a2 (AO a0)) with
 | true => match idx a0 a2 with
  | none => none
  | some x0 => some (.inl (a0, (Cb a1 x0), (IntKind.wrap .i64 (a2 + 1)), ()))
 | false => some (.inr (.inl (a1, ())))
def AI4 [Lk] : Ul → Option (U8) := fun (a0, _) =>
 match (ilt (AO a0) 1) with
 | true => none
 | false => match idx a0 0 with
 | none => none
 | some x0 => match AR KD many (a0, x0, 1, ()) with
 | none => none
 | some r => match r with
 | .inl (o1, _) => some (o1, ())
 | .inr _ => none
def AXm [Lk] := fun v => Lk.f (AI4 v)
theorem AU6 v : AXm v = AI4 v := AK _
abbrev AJl : AE := [(.tmp 0, .nil U2), (.tmp 1, .di)]
abbrev AJk : AE := [(.tmp 0, .own 3 U2)]
abbrev AJj : List RS := [.one]
def X3 [Lk] : U8 → Option (Ul) := fun (a0, _) =>
 match (ilt a0 0) with
 | true => none
 | false => match (ilt 0 (IntKind.wrap .i64 (a0 - (IntKind.wrap .i64 (0 - 0))))) with
 | true => match DY ([] : List Unit) 0 0 with
  | none => none
  | some _u0 => match (JL (IntKind.wrap .i64 (a0 - (IntKind.wrap .i64 (0 - 0))))) with
  | true => match DY (JO (AM (IntKind.wrap .i64 (a0 - (IntKind.wrap .i64 ((0 : Int) - (0 : Int)))))) (0 : Int)) (0 : Int) (0 : Int) with
   | none => none
   | some x1 => some ((DD (AM (AO x1)) (JO (AM (IntKind.wrap .i64 (a0 - (IntKind.wrap .i64 ((0 : Int) - (0 : Int)))))) (0 : Int))), ())
  | false => none
 | false => some (([] : List (Int)), ())
def AOQ [Lk] := fun v => Lk.f (X3 v)
theorem AOP v : AOQ v = X3 v := AK _
abbrev VH : AE := [(.tmp 0, .dat Uh)]
abbrev VG : AE := [(.tmp 0, .own 3 U2)]
abbrev VF : List RS := [.one]
abbrev ACa : AE := [(.tmp 6, .own 3 U2), (.tmp 25, .dat Uh), (.tmp 26, .di), (.tmp 27, .di)]
abbrev ACY : Am := [(.exit 2, [(.tmp 6, .own 3 U2)])]
def Dy [Lk] : (List Int × List U3 × Int × Int × Unit) → Option ((List Int × List U3 × Int × Int × Unit) ⊕ Ul ⊕ Unit) := fun (a0, a1, a2, a3, _) =>
 match (ilt a3 a2) with
 | true => match idx a1 a3 with
  | none => none
  | some x0 => match (fits ((AO a0) + (AO x0))) with
  | true => some (.inl ((A8 a0 x0), a1, a2, (IntKind.wrap .i64 (a3 + 1)), ()))
  | false => none
 | false => some (.inr (.inl (a0, ())))
abbrev ACb : AE := [(.tmp 0, .dat Uh), (.tmp 3, .di), (.tmp 9, .dat Uh), (.tmp 10, .di), (.tmp 11, .di)]
abbrev ACZ : Am := [(.exit 0, [(.tmp 0, .dat Uh), (.tmp 3, .di)])]
def Dz [Lk] : (List U3 × Int × List U3 × Int × Int × Unit) → Option ((List U3 × Int × List U3 × Int × Int × Unit) ⊕ V2 ⊕ Unit) := fun (a0, a1, a2, a3, a4, _) =>
 match (ilt a4 a3) with
 | true => match idx a2 a4 with
  | none => none
  | some x0 => match (ilt (IntKind.wrap .i64 (a1 + (AO x0))) 0) with
  | true => none
  | false => some (.inl (a0, (IntKind.wrap .i64 (a1 + (AO x0))), a2, a3, (IntKind.wrap .i64 (a4 + 1)), ()))
 | false => some (.inr (.inl (a0, a1, ())))
def Nd [Lk] : Ui → Option (Ul) := fun (a0, _) =>
 match AR Dz many (a0, 0, a0, (AO a0), 0, ()) with
 | none => none
 | some r => match r with
 | .inl (o0, o1, _) => match AOQ (o1, ()) with
  | none => none
  | some (y2, _) => match AR Dy many (y2, o0, (AO o0), 0, ()) with
  | none => none
  | some r => match r with
  | .inl (o3, _) => some (o3, ())
  | .inr _ => none
 | .inr _ => none
def IK [Lk] := fun v => Lk.f (Nd v)
theorem ACc v : IK v = Nd v := AK _
abbrev HW : AE := [(.tmp 0, .dat U5), (.tmp 1, .clo 195 [])]
abbrev HV : AE := [(.tmp 0, .di)]
abbrev HU : List RS := [.one]
abbrev Kx : AE := [(.tmp 0, .dat U5), (.tmp 1, .clo 195 []), (.tmp 7, .di), (.tmp 8, .di)]
abbrev Kw : Am := [(.ret, [(.tmp 4, .di)]), (.exit 0, [])]
def Bi [Lk] : Uj → Option (Uj ⊕ U8 ⊕ (Unit) ⊕ Unit) := fun (a0, a1, a2, _) =>
 match (ilt a2 a1) with
 | true => match idx a0 a2 with
  | none => none
  | some x0 => match (ilt x0 0) with
  | true => some (.inr (.inl (a2, ())))
  | false => match (ilt 10000 x0) with
  | true => some (.inr (.inl (a2, ())))
  | false => some (.inl (a0, a1, (IntKind.wrap .i64 (a2 + 1)), ()))
 | false => some (.inr (.inr (.inl ())))
def EY [Lk] : Ul → Option (U8) := fun (a0, _) =>
 match AR Bi many (a0, (AO a0), 0, ()) with
 | none => none
 | some r => match r with
 | .inl (o0, _) => some (o0, ())
 | .inr r => match r with
 | .inl _ => some ((-1 : Int), ())
 | .inr _ => none
def GX [Lk] := fun v => Lk.f (EY v)
theorem Ky v : GX v = EY v := AK _
abbrev GH : AE := [(.tmp 0, .dat U5), (.tmp 1, .clo 195 [])]
abbrev GG : AE := [(.tmp 0, .dat .bool)]
abbrev GF : List RS := [.one]
def Di [Lk] : Ul → Option (Uf) := fun (a0, _) =>
 match GX (a0, ()) with
 | none => none
 | some (y0, _) => some ((ile 0 y0), ())
def Db [Lk] := fun v => Lk.f (Di v)
theorem JQ v : Db v = Di v := AK _
abbrev ARw : AE := [(.tmp 0, .dat U5)]
abbrev ARv : AE := [(.tmp 0, .dat .bool)]
abbrev ARu : List RS := [.one]
abbrev AUw : AE := [(.tmp 0, .dat U5), (.tmp 3, .map U2 U2), (.tmp 7, .dat U5), (.tmp 8, .di), (.tmp 9, .di)]
abbrev AUv : Am := [(.exit 0, [(.tmp 0, .dat U5), (.tmp 3, .map U2 U2)])]
def J9 [Lk] : (List Int × List Uy × List Int × Int × Int × Unit) → Option ((List Int × List Uy × List Int × Int × Int × Unit) ⊕ (List Int × List Uy × Unit) ⊕ Unit) := fun (a0, a1, a2, a3, a4, _) =>
 match (ilt a4 a3) with
 | true => match idx a2 a4 with
  | none => none
  | some x0 => some (.inl (a0, (Ak a1 x0 (IntKind.wrap .i64 (((Af a1 x0).getD 0) + 1))), a2, a3, (IntKind.wrap .i64 (a4 + 1)), ()))
 | false => some (.inr (.inl (a0, a1, ())))
def AIy [Lk] : Ul → Option (Uf) := fun (a0, _) =>
 match AR J9 many (a0, ([] : List Uy), a0, (AO a0), 0, ()) with
 | none => none
 | some r => match r with
 | .inl (o0, o1, _) => some ((ieq (AO o1) (AO o0)), ())
 | .inr _ => none
def once [Lk] := fun v => Lk.f (AIy v)
theorem AUx v : once v = AIy v := AK _
abbrev Z5 : AE := [(.tmp 0, .dat U5)]
abbrev Z4 : AE := [(.tmp 0, .dat .bool)]
abbrev Z3 : List RS := [.one]
def Qh [Lk] : Ul → Option (Uf) := fun (a0, _) =>
 match (ilt 1000 (AO a0)) with
 | true => some (false, ())
 | false => match Db (a0, ()) with
 | none => none
 | some (y0, _) => match (!y0) with
 | true => match once (a0, ()) with
  | none => none
  | some (y1, _) => some (y1, ())
 | false => some (false, ())
def O1 [Lk] := fun v => Lk.f (Qh v)
theorem AFV v : O1 v = Qh v := AK _
abbrev YN : AE := [(.tmp 0, .dat U5), (.tmp 1, .di)]
abbrev YM : AE := [(.tmp 0, .own 3 U2)]
abbrev YL : List RS := [.one]
def QG [Lk] : Um → Option (Ul) := fun (a0, a1, _) =>
 match DY a0 a1 (AO a0) with
 | none => none
 | some x0 => match DY a0 0 a1 with
 | none => none
 | some x1 => match IK (([x0, x1] : List U3), ()) with
 | none => none
 | some (y2, _) => some (y2, ())
def Sd [Lk] := fun v => Lk.f (QG v)
theorem AEg v : Sd v = QG v := AK _
abbrev AAb : AE := [(.tmp 0, .dat U5), (.tmp 1, .dat U5)]
abbrev AAa : AE := [(.tmp 0, .own 3 U2), (.tmp 1, .dat .bool)]
abbrev AAZ : List RS := [.one, .one]
abbrev AFf : AE := [(.tmp 0, .dat U5), (.tmp 6, .own 3 U2), (.tmp 12, .dat U5), (.tmp 13, .di), (.tmp 14, .di)]
abbrev AFe : Am := [(.exit 0, [(.tmp 6, .own 3 U2)])]
def D8 [Lk] : (List Int × List Int × List Int × Int × Int × Unit) → Option ((List Int × List Int × List Int × Int × Int × Unit) ⊕ Ul ⊕ Unit) := fun (a0, a1, a2, a3, a4, _) =>
 match (ilt a4 a3) with
 | true => match idx a2 a4 with
  | none => none
  | some x0 => match PR (a0, x0, ()) with
  | none => none
  | some (y1, _) => match (fits ((AO a1) + (AO ([y1] : List (Int))))) with
  | true => some (.inl (a0, (A8 a1 ([y1] : List (Int))), a2, a3, (IntKind.wrap .i64 (a4 + 1)), ()))
  | false => none
 | false => some (.inr (.inl (a1, ())))
def Qo [Lk] : (List Int × List Int × Unit) → Option ((List Int × Bool × Unit)) := fun (a0, a1, _) =>
 match O1 (a0, ()) with
 | none => none
 | some (y0, _) => match (!y0) with
 | true => some (([] : List (Int)), false, ())
 | false => match AR D8 many (a0, ([] : List (Int)), a1, (AO a1), 0, ()) with
 | none => none
 | some r => match r with
 | .inl (o1, _) => match FK (o1, (-1 : Int), ()) with
  | none => none
  | some (y2, _) => some (o1, (!y2), ())
 | .inr _ => none
def AIf [Lk] := fun v => Lk.f (Qo v)
theorem AFg v : AIf v = Qo v := AK _
abbrev AIR : AE := [(.tmp 0, .dat U5), (.tmp 1, .di)]
abbrev AIQ : AE := [(.tmp 0, .own 3 U2), (.tmp 1, .dat .bool)]
abbrev AIP : List RS := [.one, .one]
def Xs [Lk] : Um → Option ((List Int × Bool × Unit)) := fun (a0, a1, _) =>
 match AIf (a0, ([a1] : List (Int)), ()) with
 | none => none
 | some (y0, y1, _) => match (!y1) with
 | true => some (([] : List (Int)), false, ())
 | false => match idx y0 0 with
 | none => none
 | some x2 => match Sd (a0, (AW y0 0 0), ()) with
 | none => none
 | some (y3, _) => some (y3, true, ())
def AFY [Lk] := fun v => Lk.f (Xs v)
theorem AMn v : AFY v = Xs v := AK _
abbrev Z8 : AE := [(.tmp 0, .dat U5)]
abbrev Z7 : AE := [(.tmp 0, .own 3 U2)]
abbrev Z6 : List RS := [.one]
def Qi [Lk] : Ul → Option (Ul) := fun (a0, _) =>
 match O1 (a0, ()) with
 | none => none
 | some (y0, _) => match (!y0) with
 | true => some (([] : List (Int)), ())
 | false => match (ieq (AO a0) 0) with
 | true => some (([] : List (Int)), ())
 | false => match AXm (a0, ()) with
 | none => none
 | some (y1, _) => match PR (a0, y1, ()) with
 | none => none
 | some (y2, _) => match Sd (a0, y2, ()) with
 | none => none
 | some (y3, _) => some (y3, ())
def Z9 [Lk] := fun v => Lk.f (Qi v)
theorem AFW v : Z9 v = Qi v := AK _
abbrev E9 : AE := [(.tmp 0, .dat Uh), (.cap 1 0, .box 1), (.cell 0 0, .di), (.tmp 1, .clo 180 [(0, 0)])]
abbrev E8 : AE := [(.obj 0, .box 1), (.cell 0 0, .di), (.tmp 0, .di)]
abbrev E7 : List RS := [.one]
abbrev H8 : AE := [(.obj 0, .box 1), (.cell 0 0, .di), (.tmp 0, .dat Uh), (.tmp 1, .clo 180 [(0, 0)]), (.tmp 7, .di), (.tmp 8, .di)]
abbrev H7 : Am := [(.ret, [(.obj 0, .box 1), (.cell 0 0, .di), (.tmp 4, .di)]), (.exit 0, [(.obj 0, .box 1), (.cell 0 0, .di)])]
def BX [Lk] : (Int × List U3 × Int × Int × Unit) → Option ((Int × List U3 × Int × Int × Unit) ⊕ U4 ⊕ U8 ⊕ Unit) := fun (a0, a1, a2, a3, _) =>
 match (ilt a3 a2) with
 | true => match idx a1 a3 with
  | none => none
  | some x0 => match FK (x0, a0, ()) with
  | none => none
  | some (y1, _) => match y1 with
  | true => some (.inr (.inl (a0, a3, ())))
  | false => some (.inl (a0, a1, a2, (IntKind.wrap .i64 (a3 + 1)), ()))
 | false => some (.inr (.inr (.inl (a0, ()))))
def DQ [Lk] : V2 → Option (U4) := fun (a0, a1, _) =>
 match AR BX many (a1, a0, (AO a0), 0, ()) with
 | none => none
 | some r => match r with
 | .inl (o0, o1, _) => some (o0, o1, ())
 | .inr r => match r with
 | .inl (o2, _) => some (o2, (-1 : Int), ())
 | .inr _ => none
def EW [Lk] := fun v => Lk.f (DQ v)
theorem H9 v : EW v = DQ v := AK _
abbrev Yk : AE := [(.tmp 0, .dat U9), (.tmp 1, .di)]
abbrev Yj : AE := [(.tmp 0, .di)]
abbrev Yi : List RS := [.one]
def QM [Lk] : V8 → Option (U8) := fun (a0, a1, _) =>
 match EW (a0.2.1, a1, ()) with
 | none => none
 | some (y0, y1, _) => some (y1, ())
def Oa [Lk] := fun v => Lk.f (QM v)
theorem AEx v : Oa v = QM v := AK _
abbrev AS5 : AE := [(.tmp 0, .di), (.tmp 1, .dat U5)]
abbrev AS4 : AE := [(.tmp 0, .dat .bool)]
abbrev AS3 : List RS := [.one]
abbrev AVV : AE := [(.tmp 0, .di), (.tmp 5, .box 3), (.cell 0 0, .own 3 U2), (.cell 0 1, .map U2 U2), (.cell 0 2, .map U2 U2), (.tmp 30, .dat U5), (.tmp 31, .di), (.tmp 32, .di)]
abbrev AVU : Am := [(.ret, [(.tmp 4, .dat .bool)]), (.exit 0, [(.tmp 5, .box 3), (.cell 0 0, .own 3 U2), (.cell 0 1, .map U2 U2), (.cell 0 2, .map U2 U2)])]
def ID [Lk] : (Int × List Int × List Uy × List Uy × List Int × Int × Int × Unit) → Option ((Int × List Int × List Uy × List Uy × List Int × Int × Int × Unit) ⊕ Uf ⊕ (List Int × List Uy × List Uy × Unit) ⊕ Unit) := fun (a0, a1, a2, a3, a4, a5, a6, _) =>
 match (ilt a6 a5) with
 | true => match idx a4 a6 with
  | none => none
  | some x0 => match YR (a0, x0, ()) with
  | none => none
  | some (y1, y2, y3, y4, _) => match (!y4) with
  | true => some (.inr (.inl (false, ())))
  | false => match y3 with
  | true => match idx a1 (IntKind.wrap .i64 ((AO a1) - 1)) with
   | none => none
   | some x5 => match (!(ieq (AW a1 (AM (IntKind.wrap .i64 ((AO a1) - 1))) 0) y1)) with
   | true => some (.inr (.inl (false, ())))
   | false => match (ilt 0 (IntKind.wrap .i64 ((AO a1) - 1))) with
   | true => match idx a1 (IntKind.wrap .i64 ((IntKind.wrap .i64 ((AO a1) - 1)) - 1)) with
    | none => none
    | some x6 => match (ieq (AW a1 (AM (IntKind.wrap .i64 ((IntKind.wrap .i64 ((AO a1) - 1)) - 1))) 0) y2) with
    | true => match DY a1 0 (IntKind.wrap .i64 ((AO a1) - 1)) with
     | none => none
     | some x7 => match (!y3) with
     | true => match idx (DS 0 (AM (AO x7)) a1) (IntKind.wrap .i64 ((((AM (AO x7)) : Nat) : Int) - 1)) with
      | none => none
      | some x8 => match (!(ieq (AW a1 (0 + (AM (IntKind.wrap .i64 ((((AM (AO x7)) : Nat) : Int) - 1)))) 0) y1)) with
      | true => some (.inr (.inl (false, ())))
      | false => match (!y3) with
      | true => some (.inl (a0, (DD (AM (AO x7)) a1), a2, (Ak a3 y1 (IntKind.wrap .i64 (((Af a3 y1).getD 0) + 1))), a4, a5, (IntKind.wrap .i64 (a6 + 1)), ()))
      | false => some (.inl (a0, (DD (AM (AO x7)) a1), a2, a3, a4, a5, (IntKind.wrap .i64 (a6 + 1)), ()))
     | false => match (!y3) with
     | true => some (.inl (a0, (DD (AM (AO x7)) a1), a2, (Ak a3 y1 (IntKind.wrap .i64 (((Af a3 y1).getD 0) + 1))), a4, a5, (IntKind.wrap .i64 (a6 + 1)), ()))
     | false => some (.inl (a0, (DD (AM (AO x7)) a1), a2, a3, a4, a5, (IntKind.wrap .i64 (a6 + 1)), ()))
    | false => match (ilt 0 ((Af a2 y2).getD 0)) with
    | true => some (.inr (.inl (false, ())))
    | false => match (fits ((AO a1) + (AO ([y2] : List (Int))))) with
    | true => match (!y3) with
     | true => match idx (A8 a1 ([y2] : List (Int))) (IntKind.wrap .i64 ((AO (A8 a1 ([y2] : List (Int)))) - 1)) with
      | none => none
      | some x9 => match (!(ieq (AW (A8 a1 ([y2] : List (Int))) (AM (IntKind.wrap .i64 ((AO (A8 a1 ([y2] : List (Int)))) - 1))) 0) y1)) with
      | true => some (.inr (.inl (false, ())))
      | false => match (!y3) with
      | true => some (.inl (a0, (A8 a1 ([y2] : List (Int))), (Ak a2 y2 (IntKind.wrap .i64 (((Af a2 y2).getD 0) + 1))), (Ak a3 y1 (IntKind.wrap .i64 (((Af a3 y1).getD 0) + 1))), a4, a5, (IntKind.wrap .i64 (a6 + 1)), ()))
      | false => some (.inl (a0, (A8 a1 ([y2] : List (Int))), (Ak a2 y2 (IntKind.wrap .i64 (((Af a2 y2).getD 0) + 1))), a3, a4, a5, (IntKind.wrap .i64 (a6 + 1)), ()))
     | false => match (!y3) with
     | true => some (.inl (a0, (A8 a1 ([y2] : List (Int))), (Ak a2 y2 (IntKind.wrap .i64 (((Af a2 y2).getD 0) + 1))), (Ak a3 y1 (IntKind.wrap .i64 (((Af a3 y1).getD 0) + 1))), a4, a5, (IntKind.wrap .i64 (a6 + 1)), ()))
     | false => some (.inl (a0, (A8 a1 ([y2] : List (Int))), (Ak a2 y2 (IntKind.wrap .i64 (((Af a2 y2).getD 0) + 1))), a3, a4, a5, (IntKind.wrap .i64 (a6 + 1)), ()))
    | false => none
   | false => match (ilt 0 ((Af a2 y2).getD 0)) with
   | true => some (.inr (.inl (false, ())))
   | false => match (fits ((AO a1) + (AO ([y2] : List (Int))))) with
   | true => match (!y3) with
    | true => match idx (A8 a1 ([y2] : List (Int))) (IntKind.wrap .i64 ((AO (A8 a1 ([y2] : List (Int)))) - 1)) with
     | none => none
     | some x10 => match (!(ieq (AW (A8 a1 ([y2] : List (Int))) (AM (IntKind.wrap .i64 ((AO (A8 a1 ([y2] : List (Int)))) - 1))) 0) y1)) with
     | true => some (.inr (.inl (false, ())))
     | false => match (!y3) with
     | true => some (.inl (a0, (A8 a1 ([y2] : List (Int))), (Ak a2 y2 (IntKind.wrap .i64 (((Af a2 y2).getD 0) + 1))), (Ak a3 y1 (IntKind.wrap .i64 (((Af a3 y1).getD 0) + 1))), a4, a5, (IntKind.wrap .i64 (a6 + 1)), ()))
     | false => some (.inl (a0, (A8 a1 ([y2] : List (Int))), (Ak a2 y2 (IntKind.wrap .i64 (((Af a2 y2).getD 0) + 1))), a3, a4, a5, (IntKind.wrap .i64 (a6 + 1)), ()))
    | false => match (!y3) with
    | true => some (.inl (a0, (A8 a1 ([y2] : List (Int))), (Ak a2 y2 (IntKind.wrap .i64 (((Af a2 y2).getD 0) + 1))), (Ak a3 y1 (IntKind.wrap .i64 (((Af a3 y1).getD 0) + 1))), a4, a5, (IntKind.wrap .i64 (a6 + 1)), ()))
    | false => some (.inl (a0, (A8 a1 ([y2] : List (Int))), (Ak a2 y2 (IntKind.wrap .i64 (((Af a2 y2).getD 0) + 1))), a3, a4, a5, (IntKind.wrap .i64 (a6 + 1)), ()))
   | false => none
  | false => match (!y3) with
  | true => match idx a1 (IntKind.wrap .i64 ((AO a1) - 1)) with
   | none => none
   | some x11 => match (!(ieq (AW a1 (AM (IntKind.wrap .i64 ((AO a1) - 1))) 0) y1)) with
   | true => some (.inr (.inl (false, ())))
   | false => match (!y3) with
   | true => some (.inl (a0, a1, a2, (Ak a3 y1 (IntKind.wrap .i64 (((Af a3 y1).getD 0) + 1))), a4, a5, (IntKind.wrap .i64 (a6 + 1)), ()))
   | false => some (.inl (a0, a1, a2, a3, a4, a5, (IntKind.wrap .i64 (a6 + 1)), ()))
  | false => match (!y3) with
  | true => some (.inl (a0, a1, a2, (Ak a3 y1 (IntKind.wrap .i64 (((Af a3 y1).getD 0) + 1))), a4, a5, (IntKind.wrap .i64 (a6 + 1)), ()))
  | false => some (.inl (a0, a1, a2, a3, a4, a5, (IntKind.wrap .i64 (a6 + 1)), ()))
 | false => some (.inr (.inr (.inl (a1, a2, a3, ()))))
def AJn [Lk] : V4 → Option (Uf) := fun (a0, a1, _) =>
 match idx a1 0 with
 | none => none
 | some x0 => match tin (a0, x0, ()) with
 | none => none
 | some (y1, _) => match (!y1) with
 | true => some (false, ())
 | false => match idx a1 0 with
 | none => none
 | some x2 => match idx a1 0 with
 | none => none
 | some x3 => match AR ID many (a0, ([x2] : List (Int)), (Ak ([] : List Uy) x3 1), ([] : List Uy), a1, (AO a1), 0, ()) with
 | none => none
 | some r => match r with
 | .inl (o4, _) => some (o4, ())
 | .inr r => match r with
 | .inl (o5, o6, o7, _) => match (ieq (AO o5) 1) with
  | true => some ((ieq (AO o7) (AO o6)), ())
  | false => some (false, ())
 | .inr _ => none
def Ab6 [Lk] := fun v => Lk.f (AJn v)
theorem AVW v : Ab6 v = AJn v := AK _
abbrev Ya : AE := [(.tmp 0, .dat U9)]
abbrev YZ : AE := [(.tmp 0, .dat .bool)]
abbrev YY : List RS := [.one]
abbrev AEm : AE := [(.tmp 3, .map U2 U2), (.tmp 78, .di), (.tmp 79, .di)]
abbrev AEj : Am := [(.ret, [(.tmp 2, .dat .bool)]), (.exit 4, [])]
def D5 [Lk] : (List Uy × Int × Int × Unit) → Option ((List Uy × Int × Int × Unit) ⊕ Uf ⊕ (Unit) ⊕ Unit) := fun (a0, a1, a2, _) =>
 match (ilt a2 a1) with
 | true => match (ieq ((Af a0 a2).getD 0) 0) with
  | true => some (.inr (.inl (false, ())))
  | false => some (.inl (a0, a1, (IntKind.wrap .i64 (a2 + 1)), ()))
 | false => some (.inr (.inr (.inl ())))
abbrev AEn : AE := [(.tmp 1, .box 2), (.cell 0 0, .di), (.cell 0 1, .dat Uh), (.tmp 3, .map U2 U2), (.tmp 4, .di), (.tmp 16, .dat Uh), (.tmp 17, .di), (.tmp 18, .di), (.tmp 26, .dat U5), (.tmp 28, .di), (.tmp 29, .di), (.tmp 30, .dat .bool), (.tmp 33, .dat U5), (.tmp 34, .dat .bool), (.tmp 35, .dat .bool), (.tmp 38, .dat U5), (.tmp 39, .di), (.tmp 40, .dat U5), (.tmp 42, .di), (.tmp 43, .dat .bool), (.tmp 46, .ptr' 0 0), (.tmp 47, .di), (.tmp 48, .dat U5), (.tmp 49, .dat .bool), (.tmp 50, .dat .bool), (.tmp 55, .dat U5), (.tmp 56, .di), (.tmp 57, .di)]
abbrev AEk : Am := [(.ret, [(.tmp 2, .dat .bool)]), (.exit 2, [(.tmp 1, .box 2), (.cell 0 0, .di), (.cell 0 1, .dat Uh), (.tmp 3, .map U2 U2), (.tmp 4, .di), (.tmp 16, .dat Uh), (.tmp 17, .di), (.tmp 18, .di), (.tmp 26, .dat U5), (.tmp 28, .di), (.tmp 29, .di), (.tmp 30, .dat .bool), (.tmp 33, .dat U5), (.tmp 34, .dat .bool), (.tmp 35, .dat .bool), (.tmp 38, .dat U5), (.tmp 39, .di), (.tmp 40, .dat U5), (.tmp 42, .di), (.tmp 43, .dat .bool), (.tmp 46, .ptr' 0 0), (.tmp 47, .di), (.tmp 48, .dat U5), (.tmp 49, .dat .bool), (.tmp 50, .dat .bool)])]
def DF [Lk] : Uv → Option (Uv ⊕ Uf ⊕ (Int × List U3 × List Uy × Int × List U3 × Int × Int × List Int × Int × Int × Bool × List Int × Bool × Bool × List Int × Int × List Int × Int × Bool × Int × List Int × Bool × Bool × Unit) ⊕ Unit) := fun (a0, a1, a2, a3, a4, a5, a6, a7, a8, a9, a10, a11, a12, a13, a14, a15, a16, a17, a18, a19, a20, a21, a22, a23, a24, a25, _) =>
 match (ilt a25 a24) with
 | true => match idx a23 a25 with
  | none => none
  | some x0 => match (ilt x0 a0) with
  | true => match (ilt 0 ((Af a2 x0).getD 0)) with
   | true => some (.inr (.inl (false, ())))
   | false => some (.inl (a0, a1, (Ak a2 x0 (IntKind.wrap .i64 (((Af a2 x0).getD 0) + 1))), a3, a4, a5, a6, a7, a8, a9, a10, a11, a12, a13, a14, a15, a16, a17, a18, a19, a20, a21, a22, a23, a24, (IntKind.wrap .i64 (a25 + 1)), ()))
  | false => some (.inl (a0, a1, (Ak a2 x0 (IntKind.wrap .i64 (((Af a2 x0).getD 0) + 1))), a3, a4, a5, a6, a7, a8, a9, a10, a11, a12, a13, a14, a15, a16, a17, a18, a19, a20, a21, a22, a23, a24, (IntKind.wrap .i64 (a25 + 1)), ()))
 | false => some (.inr (.inr (.inl (a0, a1, a2, a3, a4, a5, a6, a7, a8, a9, a10, a11, a12, a13, a14, a15, a16, a17, a18, a19, a20, a21, a22, ()))))
abbrev AEo : AE := [(.tmp 1, .box 2), (.cell 0 0, .di), (.cell 0 1, .dat Uh), (.tmp 3, .map U2 U2), (.tmp 4, .di), (.tmp 16, .dat Uh), (.tmp 17, .di), (.tmp 18, .di)]
abbrev AEl : Am := [(.ret, [(.tmp 2, .dat .bool)]), (.exit 0, [(.tmp 1, .box 2), (.cell 0 0, .di), (.cell 0 1, .dat Uh), (.tmp 3, .map U2 U2)])]
def DG [Lk] : (Int × List U3 × List Uy × Int × List U3 × Int × Int × Unit) → Option ((Int × List U3 × List Uy × Int × List U3 × Int × Int × Unit) ⊕ Uf ⊕ (Int × List U3 × List Uy × Unit) ⊕ Unit) := fun (a0, a1, a2, a3, a4, a5, a6, _) =>
 match (ilt a6 a5) with
 | true => match idx a4 a6 with
  | none => none
  | some x0 => match (ieq (AO x0) 0) with
  | true => some (.inr (.inl (false, ())))
  | false => match idx x0 0 with
  | none => none
  | some x1 => match (ile x1 a3) with
  | true => some (.inr (.inl (false, ())))
  | false => match O1 (x0, ()) with
  | none => none
  | some (y2, _) => match (!y2) with
  | true => some (.inr (.inl (false, ())))
  | false => match AXm (x0, ()) with
  | none => none
  | some (y3, _) => match idx x0 0 with
  | none => none
  | some x4 => match (!(ieq y3 x4)) with
  | true => some (.inr (.inl (false, ())))
  | false => match Ab6 (a0, x0, ()) with
  | none => none
  | some (y5, _) => match (!y5) with
  | true => some (.inr (.inl (false, ())))
  | false => match idx x0 0 with
  | none => none
  | some x6 => match AR DF many (a0, a1, a2, x6, a4, a5, a6, x0, x1, a3, (ile x1 a3), x0, y2, (!y2), x0, y3, x0, x4, (!(ieq y3 x4)), a0, x0, y5, (!y5), x0, (AO x0), 0, ()) with
  | none => none
  | some r => match r with
  | .inl (o7, _) => some (.inr (.inl (o7, ())))
  | .inr r => match r with
  | .inl (o8, o9, o10, o11, o12, o13, o14, o15, o16, o17, o18, o19, o20, o21, o22, o23, o24, o25, o26, o27, o28, o29, o30, _) => some (.inl (o8, o9, o10, o11, o12, o13, (IntKind.wrap .i64 (o14 + 1)), ()))
  | .inr _ => none
 | false => some (.inr (.inr (.inl (a0, a1, a2, ()))))
def QK [Lk] : (Ua × Unit) → Option (Uf) := fun (a0, _) =>
 match LC (a0.1, ()) with
 | none => none
 | some (y0, _) => match (!y0) with
 | true => some (false, ())
 | false => match AR DG many (a0.1, a0.2.1, ([] : List Uy), (-1 : Int), a0.2.1, (AO a0.2.1), 0, ()) with
 | none => none
 | some r => match r with
 | .inl (o1, _) => some (o1, ())
 | .inr r => match r with
 | .inl (o2, o3, o4, _) => match AR D5 many (o4, o2, 0, ()) with
  | none => none
  | some r => match r with
  | .inl (o5, _) => some (o5, ())
  | .inr r => match r with
  | .inl _ => some (true, ())
  | .inr _ => none
 | .inr _ => none
def OZ [Lk] := fun v => Lk.f (QK v)
theorem AEp v : OZ v = QK v := AK _
abbrev AKb : AE := [(.tmp 0, .dat U9), (.tmp 1, .di), (.tmp 2, .di)]
abbrev AKa : AE := [(.tmp 0, .di)]
abbrev AKZ : List RS := [.one]
def X9 [Lk] : (Ua × Int × Int × Unit) → Option (U8) := fun (a0, a1, a2, _) =>
 match OZ ((a0.1, (a0.2.1, ())), ()) with
 | none => none
 | some (y0, _) => match (!y0) with
 | true => some (1, ())
 | false => match tin (a0.1, a1, ()) with
 | none => none
 | some (y1, _) => match (!y1) with
 | true => some (10, ())
 | false => match tin (a0.1, a2, ()) with
 | none => none
 | some (y2, _) => match (!y2) with
 | true => some (10, ())
 | false => some (0, ())
def asked [Lk] := fun v => Lk.f (X9 v)
theorem APJ v : asked v = X9 v := AK _
abbrev AR4 : AE := [(.tmp 0, .di)]
abbrev AR3 : AE := [(.tmp 0, .dat .bool)]
abbrev AR2 : List RS := [.one]
def ABA [Lk] : U8 → Option (Uf) := fun (a0, _) =>
 some ((!(ieq a0 a0)), ())
def AbK [Lk] := fun v => Lk.f (ABA v)
theorem AI3 v : AbK v = ABA v := AK _
abbrev Pp : AE := [(.tmp 0, .di), (.tmp 1, .di)]
abbrev Po : AE := [(.tmp 0, .di)]
abbrev Pn : List RS := [.one]
def Hh [Lk] : U4 → Option (U8) := fun (a0, a1, _) =>
 match AbK (a0, ()) with
 | none => none
 | some (y0, _) => match AbK (a1, ()) with
 | none => none
 | some (y1, _) => match y0 with
 | true => match y1 with
  | true => some (0, ())
  | false => some ((-1 : Int), ())
 | false => match y1 with
 | true => some (1, ())
 | false => match (ilt a0 a1) with
 | true => some ((-1 : Int), ())
 | false => match (ilt a1 a0) with
 | true => some (1, ())
 | false => some (0, ())
def F5 [Lk] := fun v => Lk.f (Hh v)
theorem MO v : F5 v = Hh v := AK _
abbrev AGo : AE := [(.tmp 0, .dat U5), (.tmp 1, .dat U5)]
abbrev AGn : AE := [(.tmp 0, .di)]
abbrev AGm : List RS := [.one]
def Xf [Lk] : (List Int × List Int × Unit) → Option (U8) := fun (a0, a1, _) =>
 match idx a0 0 with
 | none => none
 | some x0 => match idx a1 0 with
 | none => none
 | some x1 => match F5 (x0, x1, ()) with
 | none => none
 | some (y2, _) => some (y2, ())
def A9 [Lk] := fun v => Lk.f (Xf v)
theorem ALB v : A9 v = Xf v := AK _
def GD : List Int := [0, 1, 2, 2, 3, 3, 3, 3, 4, 4, 4, 4, 4, 4, 4, 4, 5, 5, 5, 5, 5, 5, 5, 5, 5, 5, 5, 5, 5, 5, 5, 5, 6, 6, 6, 6, 6, 6, 6, 6, 6, 6, 6, 6, 6, 6, 6, 6, 6, 6, 6, 6, 6, 6, 6, 6, 6, 6, 6, 6, 6, 6, 6, 6, 7, 7, 7, 7, 7, 7, 7, 7, 7, 7, 7, 7, 7, 7, 7, 7, 7, 7, 7, 7, 7, 7, 7, 7, 7, 7, 7, 7, 7, 7, 7, 7, 7, 7, 7, 7, 7, 7, 7, 7, 7, 7, 7, 7, 7, 7, 7, 7, 7, 7, 7, 7, 7, 7, 7, 7, 7, 7, 7, 7, 7, 7, 7, 7, 8, 8, 8, 8, 8, 8, 8, 8, 8, 8, 8, 8, 8, 8, 8, 8, 8, 8, 8, 8, 8, 8, 8, 8, 8, 8, 8, 8, 8, 8, 8, 8, 8, 8, 8, 8, 8, 8, 8, 8, 8, 8, 8, 8, 8, 8, 8, 8, 8, 8, 8, 8, 8, 8, 8, 8, 8, 8, 8, 8, 8, 8, 8, 8, 8, 8, 8, 8, 8, 8, 8, 8, 8, 8, 8, 8, 8, 8, 8, 8, 8, 8, 8, 8, 8, 8, 8, 8, 8, 8, 8, 8, 8, 8, 8, 8, 8, 8, 8, 8, 8, 8, 8, 8, 8, 8, 8, 8, 8, 8, 8, 8, 8, 8, 8, 8, 8, 8, 8, 8, 8, 8, 8, 8, 8, 8, 8, 8]
abbrev AJM : AE := [(.tmp 0, .dat (.int .u64))]
abbrev AJL : AE := [(.tmp 0, .di)]
abbrev AJK : List RS := [.one]
def Xz [Lk] : U8 → Option (U8) := fun (a0, _) =>
 match (ile 4294967296 a0) with
 | true => match shr? .u64 a0 32 with
  | none => none
  | some x0 => match (ile 65536 x0) with
  | true => match shr? .u64 x0 16 with
   | none => none
   | some x1 => match (ile 256 x1) with
   | true => match shr? .u64 x1 8 with
    | none => none
    | some x2 => match idx GD (IntKind.wrap .u8 x2) with
    | none => none
    | some x3 => some ((IntKind.wrap .i64 ((IntKind.wrap .i64 ((IntKind.wrap .i64 (32 + 16)) + 8)) + (IntKind.wrap .i64 x3))), ())
   | false => match idx GD (IntKind.wrap .u8 x1) with
   | none => none
   | some x4 => some ((IntKind.wrap .i64 ((IntKind.wrap .i64 (32 + 16)) + (IntKind.wrap .i64 x4))), ())
  | false => match (ile 256 x0) with
  | true => match shr? .u64 x0 8 with
   | none => none
   | some x5 => match idx GD (IntKind.wrap .u8 x5) with
   | none => none
   | some x6 => some ((IntKind.wrap .i64 ((IntKind.wrap .i64 (32 + 8)) + (IntKind.wrap .i64 x6))), ())
  | false => match idx GD (IntKind.wrap .u8 x0) with
  | none => none
  | some x7 => some ((IntKind.wrap .i64 (32 + (IntKind.wrap .i64 x7))), ())
 | false => match (ile 65536 a0) with
 | true => match shr? .u64 a0 16 with
  | none => none
  | some x8 => match (ile 256 x8) with
  | true => match shr? .u64 x8 8 with
   | none => none
   | some x9 => match idx GD (IntKind.wrap .u8 x9) with
   | none => none
   | some x10 => some ((IntKind.wrap .i64 ((IntKind.wrap .i64 ((IntKind.wrap .i64 (0 + 16)) + 8)) + (IntKind.wrap .i64 x10))), ())
  | false => match idx GD (IntKind.wrap .u8 x8) with
  | none => none
  | some x11 => some ((IntKind.wrap .i64 ((IntKind.wrap .i64 (0 + 16)) + (IntKind.wrap .i64 x11))), ())
 | false => match (ile 256 a0) with
 | true => match shr? .u64 a0 8 with
  | none => none
  | some x12 => match idx GD (IntKind.wrap .u8 x12) with
  | none => none
  | some x13 => some ((IntKind.wrap .i64 ((IntKind.wrap .i64 (0 + 8)) + (IntKind.wrap .i64 x13))), ())
 | false => match idx GD (IntKind.wrap .u8 a0) with
 | none => none
 | some x14 => some ((IntKind.wrap .i64 (0 + (IntKind.wrap .i64 x14))), ())
def AN6 [Lk] := fun v => Lk.f (Xz v)
theorem AN5 v : AN6 v = Xz v := AK _
abbrev VN : AE := [(.tmp 0, .dat (.int .u64))]
abbrev VM : AE := [(.tmp 0, .di)]
abbrev VL : List RS := [.one]
def Ng [Lk] : U8 → Option (U8) := fun (a0, _) =>
 match AN6 (a0, ()) with
 | none => none
 | some (y0, _) => some (y0, ())
def bitsLen [Lk] := fun v => Lk.f (Ng v)
theorem ACn v : bitsLen v = Ng v := AK _
abbrev Sc : AE := [(.tmp 0, .box 1), (.cell 0 0, .dat (.int .u64))]
abbrev Sb : AE := [(.obj 0, .box 1), (.cell 0 0, .dat (.int .u64)), (.tmp 0, .dat (.int .u64))]
abbrev Sa : List RS := [.one]
def My [Lk] : U8 → Option (U4) := fun (a0, _) =>
 match shl? .u64 a0 13 with
 | none => none
 | some x0 => match shr? .u64 (IntKind.wrap .u64 ((BitVec.ofInt (IntKind.bits .u64) a0 ^^^ BitVec.ofInt (IntKind.bits .u64) x0).toNat)) 7 with
 | none => none
 | some x1 => match shl? .u64 (IntKind.wrap .u64 ((BitVec.ofInt (IntKind.bits .u64) (IntKind.wrap .u64 ((BitVec.ofInt (IntKind.bits .u64) a0 ^^^ BitVec.ofInt (IntKind.bits .u64) x0).toNat)) ^^^ BitVec.ofInt (IntKind.bits .u64) x1).toNat)) 17 with
 | none => none
 | some x2 => some ((IntKind.wrap .u64 ((BitVec.ofInt (IntKind.bits .u64) (IntKind.wrap .u64 ((BitVec.ofInt (IntKind.bits .u64) (IntKind.wrap .u64 ((BitVec.ofInt (IntKind.bits .u64) a0 ^^^ BitVec.ofInt (IntKind.bits .u64) x0).toNat)) ^^^ BitVec.ofInt (IntKind.bits .u64) x1).toNat)) ^^^ BitVec.ofInt (IntKind.bits .u64) x2).toNat)), (IntKind.wrap .u64 ((BitVec.ofInt (IntKind.bits .u64) (IntKind.wrap .u64 ((BitVec.ofInt (IntKind.bits .u64) (IntKind.wrap .u64 ((BitVec.ofInt (IntKind.bits .u64) a0 ^^^ BitVec.ofInt (IntKind.bits .u64) x0).toNat)) ^^^ BitVec.ofInt (IntKind.bits .u64) x1).toNat)) ^^^ BitVec.ofInt (IntKind.bits .u64) x2).toNat)), ())
def xorNext [Lk] := fun v => Lk.f (My v)
theorem YG v : xorNext v = My v := AK _
abbrev Tr : AE := [(.tmp 0, .di)]
abbrev Tq : AE := [(.tmp 0, .dat (.int .u64))]
abbrev Tp : List RS := [.one]
def NR [Lk] : U8 → Option (U8) := fun (a0, _) =>
 match bitsLen ((IntKind.wrap .u64 a0), ()) with
 | none => none
 | some (y0, _) => match shl? .u64 1 y0 with
 | none => none
 | some x1 => some (x1, ())
def Q1 [Lk] := fun v => Lk.f (NR v)
theorem AA9 v : Q1 v = NR v := AK _
def Fa [Lk] {α : Type} (z : α) (c : α × α × Unit → Option U8) : (List α × Int × Int × Int × Int × Unit) → Option ((List α × Int × Int × Int × Int × Unit) ⊕ (List α × Int × Int × Int × Unit) ⊕ Unit) := fun (a0, a1, a2, a3, a4, _) =>
 match (ilt a1 a4) with
 | true => match idx a0 a4 with
  | none => none
  | some x0 => match idx a0 (IntKind.wrap .i64 (a4 - 1)) with
  | none => none
  | some x1 => match c ((AW a0 (AM a4) z), (AW a0 (AM (IntKind.wrap .i64 (a4 - 1))) z), ()) with
  | none => none
  | some (y2, _) => match (ilt y2 0) with
  | true => match idx a0 (IntKind.wrap .i64 (a4 - 1)) with
   | none => none
   | some x3 => match idx a0 a4 with
   | none => none
   | some x4 => match idx a0 a4 with
   | none => none
   | some x5 => match idx (An a0 (AM a4) (AW a0 (AM (IntKind.wrap .i64 (a4 - 1))) z)) (IntKind.wrap .i64 (a4 - 1)) with
   | none => none
   | some x6 => some (.inl ((An (An a0 (AM a4) (AW a0 (AM (IntKind.wrap .i64 (a4 - 1))) z)) (AM (IntKind.wrap .i64 (a4 - 1))) (AW a0 (AM a4) z)), a1, a2, a3, (IntKind.wrap .i64 (a4 - 1)), ()))
  | false => some (.inr (.inl (a0, a1, a2, a3, ())))
 | false => some (.inr (.inl (a0, a1, a2, a3, ())))
def Dh [Lk] {α : Type} (z : α) (c : α × α × Unit → Option U8) : (List α × Int × Int × Int × Unit) → Option ((List α × Int × Int × Int × Unit) ⊕ (List α × Unit) ⊕ Unit) := fun (a0, a1, a2, a3, _) =>
 match (ilt a3 a2) with
 | true => match AR (Fa z c) many (a0, a1, a2, a3, a3, ()) with
  | none => none
  | some r => match r with
  | .inl (o0, o1, o2, o3, _) => some (.inl (o0, o1, o2, (IntKind.wrap .i64 (o3 + 1)), ()))
  | .inr _ => none
 | false => some (.inr (.inl (a0, ())))
def PO [Lk] {α : Type} (z : α) (c : α × α × Unit → Option U8) : (List α × Int × Int × Unit) → Option ((List α × Unit)) := fun (a0, a1, a2, _) =>
 match AR (Dh z c) many (a0, a1, a2, (IntKind.wrap .i64 (a1 + 1)), ()) with
 | none => none
 | some r => match r with
 | .inl (o0, _) => some (o0, ())
 | .inr _ => none
def Abl [Lk] {α : Type} (z : α) (c : α × α × Unit → Option U8) (v : (List α × Int × Int × Unit)) : Option ((List α × Unit)) := Lk.f ((PO z c) v)
theorem AeH {α : Type} (z : α) (c : α × α × Unit → Option U8) (v : (List α × Int × Int × Unit)) : (Abl z c) v = (PO z c) v := AK _
def Lc [Lk] {α : Type} (z : α) (c : α × α × Unit → Option U8) : (List α × Int × Int × Int × Unit) → Option ((List α × Int × Int × Int × Unit) ⊕ (List α × Unit) ⊕ (List α × Unit) ⊕ Unit) := fun (a0, a1, a2, a3, _) =>
 match (ile a1 (IntKind.wrap .i64 ((IntKind.wrap .i64 (2 * a3)) + 1))) with
 | true => some (.inr (.inl (a0, ())))
 | false => match (ilt (IntKind.wrap .i64 ((IntKind.wrap .i64 ((IntKind.wrap .i64 (2 * a3)) + 1)) + 1)) a1) with
 | true => match idx a0 (IntKind.wrap .i64 (a2 + (IntKind.wrap .i64 ((IntKind.wrap .i64 (2 * a3)) + 1)))) with
  | none => none
  | some x0 => match idx a0 (IntKind.wrap .i64 ((IntKind.wrap .i64 (a2 + (IntKind.wrap .i64 ((IntKind.wrap .i64 (2 * a3)) + 1)))) + 1)) with
  | none => none
  | some x1 => match c ((AW a0 (AM (IntKind.wrap .i64 (a2 + (IntKind.wrap .i64 ((IntKind.wrap .i64 (2 * a3)) + 1))))) z), (AW a0 (AM (IntKind.wrap .i64 ((IntKind.wrap .i64 (a2 + (IntKind.wrap .i64 ((IntKind.wrap .i64 (2 * a3)) + 1)))) + 1))) z), ()) with
  | none => none
  | some (y2, _) => match (ilt y2 0) with
  | true => match idx a0 (IntKind.wrap .i64 (a2 + a3)) with
   | none => none
   | some x3 => match idx a0 (IntKind.wrap .i64 (a2 + (IntKind.wrap .i64 ((IntKind.wrap .i64 ((IntKind.wrap .i64 (2 * a3)) + 1)) + 1)))) with
   | none => none
   | some x4 => match c ((AW a0 (AM (IntKind.wrap .i64 (a2 + a3))) z), (AW a0 (AM (IntKind.wrap .i64 (a2 + (IntKind.wrap .i64 ((IntKind.wrap .i64 ((IntKind.wrap .i64 (2 * a3)) + 1)) + 1))))) z), ()) with
   | none => none
   | some (y5, _) => match (!(ilt y5 0)) with
   | true => some (.inr (.inr (.inl (a0, ()))))
   | false => match idx a0 (IntKind.wrap .i64 (a2 + (IntKind.wrap .i64 ((IntKind.wrap .i64 ((IntKind.wrap .i64 (2 * a3)) + 1)) + 1)))) with
   | none => none
   | some x6 => match idx a0 (IntKind.wrap .i64 (a2 + a3)) with
   | none => none
   | some x7 => match idx a0 (IntKind.wrap .i64 (a2 + a3)) with
   | none => none
   | some x8 => match idx (An a0 (AM (IntKind.wrap .i64 (a2 + a3))) (AW a0 (AM (IntKind.wrap .i64 (a2 + (IntKind.wrap .i64 ((IntKind.wrap .i64 ((IntKind.wrap .i64 (2 * a3)) + 1)) + 1))))) z)) (IntKind.wrap .i64 (a2 + (IntKind.wrap .i64 ((IntKind.wrap .i64 ((IntKind.wrap .i64 (2 * a3)) + 1)) + 1)))) with
   | none => none
   | some x9 => some (.inl ((An (An a0 (AM (IntKind.wrap .i64 (a2 + a3))) (AW a0 (AM (IntKind.wrap .i64 (a2 + (IntKind.wrap .i64 ((IntKind.wrap .i64 ((IntKind.wrap .i64 (2 * a3)) + 1)) + 1))))) z)) (AM (IntKind.wrap .i64 (a2 + (IntKind.wrap .i64 ((IntKind.wrap .i64 ((IntKind.wrap .i64 (2 * a3)) + 1)) + 1))))) (AW a0 (AM (IntKind.wrap .i64 (a2 + a3))) z)), a1, a2, (IntKind.wrap .i64 ((IntKind.wrap .i64 ((IntKind.wrap .i64 (2 * a3)) + 1)) + 1)), ()))
  | false => match idx a0 (IntKind.wrap .i64 (a2 + a3)) with
  | none => none
  | some x10 => match idx a0 (IntKind.wrap .i64 (a2 + (IntKind.wrap .i64 ((IntKind.wrap .i64 (2 * a3)) + 1)))) with
  | none => none
  | some x11 => match c ((AW a0 (AM (IntKind.wrap .i64 (a2 + a3))) z), (AW a0 (AM (IntKind.wrap .i64 (a2 + (IntKind.wrap .i64 ((IntKind.wrap .i64 (2 * a3)) + 1))))) z), ()) with
  | none => none
  | some (y12, _) => match (!(ilt y12 0)) with
  | true => some (.inr (.inr (.inl (a0, ()))))
  | false => match idx a0 (IntKind.wrap .i64 (a2 + (IntKind.wrap .i64 ((IntKind.wrap .i64 (2 * a3)) + 1)))) with
  | none => none
  | some x13 => match idx a0 (IntKind.wrap .i64 (a2 + a3)) with
  | none => none
  | some x14 => match idx a0 (IntKind.wrap .i64 (a2 + a3)) with
  | none => none
  | some x15 => match idx (An a0 (AM (IntKind.wrap .i64 (a2 + a3))) (AW a0 (AM (IntKind.wrap .i64 (a2 + (IntKind.wrap .i64 ((IntKind.wrap .i64 (2 * a3)) + 1))))) z)) (IntKind.wrap .i64 (a2 + (IntKind.wrap .i64 ((IntKind.wrap .i64 (2 * a3)) + 1)))) with
  | none => none
  | some x16 => some (.inl ((An (An a0 (AM (IntKind.wrap .i64 (a2 + a3))) (AW a0 (AM (IntKind.wrap .i64 (a2 + (IntKind.wrap .i64 ((IntKind.wrap .i64 (2 * a3)) + 1))))) z)) (AM (IntKind.wrap .i64 (a2 + (IntKind.wrap .i64 ((IntKind.wrap .i64 (2 * a3)) + 1))))) (AW a0 (AM (IntKind.wrap .i64 (a2 + a3))) z)), a1, a2, (IntKind.wrap .i64 ((IntKind.wrap .i64 (2 * a3)) + 1)), ()))
 | false => match idx a0 (IntKind.wrap .i64 (a2 + a3)) with
 | none => none
 | some x17 => match idx a0 (IntKind.wrap .i64 (a2 + (IntKind.wrap .i64 ((IntKind.wrap .i64 (2 * a3)) + 1)))) with
 | none => none
 | some x18 => match c ((AW a0 (AM (IntKind.wrap .i64 (a2 + a3))) z), (AW a0 (AM (IntKind.wrap .i64 (a2 + (IntKind.wrap .i64 ((IntKind.wrap .i64 (2 * a3)) + 1))))) z), ()) with
 | none => none
 | some (y19, _) => match (!(ilt y19 0)) with
 | true => some (.inr (.inr (.inl (a0, ()))))
 | false => match idx a0 (IntKind.wrap .i64 (a2 + (IntKind.wrap .i64 ((IntKind.wrap .i64 (2 * a3)) + 1)))) with
 | none => none
 | some x20 => match idx a0 (IntKind.wrap .i64 (a2 + a3)) with
 | none => none
 | some x21 => match idx a0 (IntKind.wrap .i64 (a2 + a3)) with
 | none => none
 | some x22 => match idx (An a0 (AM (IntKind.wrap .i64 (a2 + a3))) (AW a0 (AM (IntKind.wrap .i64 (a2 + (IntKind.wrap .i64 ((IntKind.wrap .i64 (2 * a3)) + 1))))) z)) (IntKind.wrap .i64 (a2 + (IntKind.wrap .i64 ((IntKind.wrap .i64 (2 * a3)) + 1)))) with
 | none => none
 | some x23 => some (.inl ((An (An a0 (AM (IntKind.wrap .i64 (a2 + a3))) (AW a0 (AM (IntKind.wrap .i64 (a2 + (IntKind.wrap .i64 ((IntKind.wrap .i64 (2 * a3)) + 1))))) z)) (AM (IntKind.wrap .i64 (a2 + (IntKind.wrap .i64 ((IntKind.wrap .i64 (2 * a3)) + 1))))) (AW a0 (AM (IntKind.wrap .i64 (a2 + a3))) z)), a1, a2, (IntKind.wrap .i64 ((IntKind.wrap .i64 (2 * a3)) + 1)), ()))
def Xp [Lk] {α : Type} (z : α) (c : α × α × Unit → Option U8) : (List α × Int × Int × Int × Unit) → Option ((List α × Unit)) := fun (a0, a1, a2, a3, _) =>
 match AR (Lc z c) many (a0, a2, a3, a1, ()) with
 | none => none
 | some r => match r with
 | .inl (o0, _) => some (o0, ())
 | .inr r => match r with
 | .inl (o1, _) => some (o1, ())
 | .inr _ => none
def AMQ [Lk] {α : Type} (z : α) (c : α × α × Unit → Option U8) (v : (List α × Int × Int × Int × Unit)) : Option ((List α × Unit)) := Lk.f ((Xp z c) v)
theorem AaR {α : Type} (z : α) (c : α × α × Unit → Option U8) (v : (List α × Int × Int × Int × Unit)) : (AMQ z c) v = (Xp z c) v := AK _
def L5 [Lk] {α : Type} (z : α) (c : α × α × Unit → Option U8) : (List α × Int × Int × Int × Unit) → Option ((List α × Int × Int × Int × Unit) ⊕ (List α × Unit) ⊕ Unit) := fun (a0, a1, a2, a3, _) =>
 match (ile 0 a3) with
 | true => match idx a0 (IntKind.wrap .i64 (a1 + a3)) with
  | none => none
  | some x0 => match idx a0 a1 with
  | none => none
  | some x1 => match idx a0 a1 with
  | none => none
  | some x2 => match idx (An a0 (AM a1) (AW a0 (AM (IntKind.wrap .i64 (a1 + a3))) z)) (IntKind.wrap .i64 (a1 + a3)) with
  | none => none
  | some x3 => match (AMQ z c) ((An (An a0 (AM a1) (AW a0 (AM (IntKind.wrap .i64 (a1 + a3))) z)) (AM (IntKind.wrap .i64 (a1 + a3))) (AW a0 (AM a1) z)), a2, a3, a1, ()) with
  | none => none
  | some (y4, _) => some (.inl (y4, a1, a2, (IntKind.wrap .i64 (a3 - 1)), ()))
 | false => some (.inr (.inl (a0, ())))
def L6 [Lk] {α : Type} (z : α) (c : α × α × Unit → Option U8) : (List α × Int × Int × Int × Int × Unit) → Option ((List α × Int × Int × Int × Int × Unit) ⊕ (List α × Int × Int × Int × Unit) ⊕ Unit) := fun (a0, a1, a2, a3, a4, _) =>
 match (ile 0 a4) with
 | true => match (AMQ z c) (a0, a4, a3, a1, ()) with
  | none => none
  | some (y0, _) => some (.inl (y0, a1, a2, a3, (IntKind.wrap .i64 (a4 - 1)), ()))
 | false => some (.inr (.inl (a0, a1, a2, a3, ())))
def X2 [Lk] {α : Type} (z : α) (c : α × α × Unit → Option U8) : (List α × Int × Int × Unit) → Option ((List α × Unit)) := fun (a0, a1, a2, _) =>
 match quo? .i64 (IntKind.wrap .i64 ((IntKind.wrap .i64 (a2 - a1)) - 1)) 2 with
 | none => none
 | some x0 => match AR (L6 z c) many (a0, a1, 0, (IntKind.wrap .i64 (a2 - a1)), x0, ()) with
 | none => none
 | some r => match r with
 | .inl (o1, o2, o3, o4, _) => match AR (L5 z c) many (o1, o2, o3, (IntKind.wrap .i64 (o4 - 1)), ()) with
  | none => none
  | some r => match r with
  | .inl (o5, _) => some (o5, ())
  | .inr _ => none
 | .inr _ => none
def AVS [Lk] {α : Type} (z : α) (c : α × α × Unit → Option U8) (v : (List α × Int × Int × Unit)) : Option ((List α × Unit)) := Lk.f ((X2 z c) v)
theorem Abz {α : Type} (z : α) (c : α × α × Unit → Option U8) (v : (List α × Int × Int × Unit)) : (AVS z c) v = (X2 z c) v := AK _
def Gp [Lk] {α : Type} (z : α) (c : α × α × Unit → Option U8) : (List α × Int × Int × Int × Int × Int × Unit) → Option ((List α × Int × Int × Int × Int × Int × Unit) ⊕ (List α × Unit) ⊕ Unit) := fun (a0, a1, a2, a3, a4, a5, _) =>
 match quo? .i64 a2 4 with
 | none => none
 | some x0 => match (ile a5 (IntKind.wrap .i64 ((IntKind.wrap .i64 (a1 + (IntKind.wrap .i64 (x0 * 2)))) + 1))) with
 | true => match xorNext (a3, ()) with
  | none => none
  | some (y1, y2, _) => match (ile a2 (IntKind.wrap .i64 (IntKind.wrap .u64 ((BitVec.ofInt (IntKind.bits .u64) y2 &&& BitVec.ofInt (IntKind.bits .u64) (IntKind.wrap .u64 (a4 - 1))).toNat)))) with
  | true => match idx a0 (IntKind.wrap .i64 (a1 + (IntKind.wrap .i64 ((IntKind.wrap .i64 (IntKind.wrap .u64 ((BitVec.ofInt (IntKind.bits .u64) y2 &&& BitVec.ofInt (IntKind.bits .u64) (IntKind.wrap .u64 (a4 - 1))).toNat))) - a2)))) with
   | none => none
   | some x3 => match idx a0 a5 with
   | none => none
   | some x4 => match idx a0 a5 with
   | none => none
   | some x5 => match idx (An a0 (AM a5) (AW a0 (AM (IntKind.wrap .i64 (a1 + (IntKind.wrap .i64 ((IntKind.wrap .i64 (IntKind.wrap .u64 ((BitVec.ofInt (IntKind.bits .u64) y2 &&& BitVec.ofInt (IntKind.bits .u64) (IntKind.wrap .u64 (a4 - 1))).toNat))) - a2))))) z)) (IntKind.wrap .i64 (a1 + (IntKind.wrap .i64 ((IntKind.wrap .i64 (IntKind.wrap .u64 ((BitVec.ofInt (IntKind.bits .u64) y2 &&& BitVec.ofInt (IntKind.bits .u64) (IntKind.wrap .u64 (a4 - 1))).toNat))) - a2)))) with
   | none => none
   | some x6 => some (.inl ((An (An a0 (AM a5) (AW a0 (AM (IntKind.wrap .i64 (a1 + (IntKind.wrap .i64 ((IntKind.wrap .i64 (IntKind.wrap .u64 ((BitVec.ofInt (IntKind.bits .u64) y2 &&& BitVec.ofInt (IntKind.bits .u64) (IntKind.wrap .u64 (a4 - 1))).toNat))) - a2))))) z)) (AM (IntKind.wrap .i64 (a1 + (IntKind.wrap .i64 ((IntKind.wrap .i64 (IntKind.wrap .u64 ((BitVec.ofInt (IntKind.bits .u64) y2 &&& BitVec.ofInt (IntKind.bits .u64) (IntKind.wrap .u64 (a4 - 1))).toNat))) - a2))))) (AW a0 (AM a5) z)), a1, a2, y1, a4, (IntKind.wrap .i64 (a5 + 1)), ()))
  | false => match idx a0 (IntKind.wrap .i64 (a1 + (IntKind.wrap .i64 (IntKind.wrap .u64 ((BitVec.ofInt (IntKind.bits .u64) y2 &&& BitVec.ofInt (IntKind.bits .u64) (IntKind.wrap .u64 (a4 - 1))).toNat))))) with
  | none => none
  | some x7 => match idx a0 a5 with
  | none => none
  | some x8 => match idx a0 a5 with
  | none => none
  | some x9 => match idx (An a0 (AM a5) (AW a0 (AM (IntKind.wrap .i64 (a1 + (IntKind.wrap .i64 (IntKind.wrap .u64 ((BitVec.ofInt (IntKind.bits .u64) y2 &&& BitVec.ofInt (IntKind.bits .u64) (IntKind.wrap .u64 (a4 - 1))).toNat)))))) z)) (IntKind.wrap .i64 (a1 + (IntKind.wrap .i64 (IntKind.wrap .u64 ((BitVec.ofInt (IntKind.bits .u64) y2 &&& BitVec.ofInt (IntKind.bits .u64) (IntKind.wrap .u64 (a4 - 1))).toNat))))) with
  | none => none
  | some x10 => some (.inl ((An (An a0 (AM a5) (AW a0 (AM (IntKind.wrap .i64 (a1 + (IntKind.wrap .i64 (IntKind.wrap .u64 ((BitVec.ofInt (IntKind.bits .u64) y2 &&& BitVec.ofInt (IntKind.bits .u64) (IntKind.wrap .u64 (a4 - 1))).toNat)))))) z)) (AM (IntKind.wrap .i64 (a1 + (IntKind.wrap .i64 (IntKind.wrap .u64 ((BitVec.ofInt (IntKind.bits .u64) y2 &&& BitVec.ofInt (IntKind.bits .u64) (IntKind.wrap .u64 (a4 - 1))).toNat)))))) (AW a0 (AM a5) z)), a1, a2, y1, a4, (IntKind.wrap .i64 (a5 + 1)), ()))
 | false => some (.inr (.inl (a0, ())))
def Rq [Lk] {α : Type} (z : α) (c : α × α × Unit → Option U8) : (List α × Int × Int × Unit) → Option ((List α × Unit)) := fun (a0, a1, a2, _) =>
 match (ile 8 (IntKind.wrap .i64 (a2 - a1))) with
 | true => match Q1 ((IntKind.wrap .i64 (a2 - a1)), ()) with
  | none => none
  | some (y0, _) => match quo? .i64 (IntKind.wrap .i64 (a2 - a1)) 4 with
  | none => none
  | some x1 => match AR (Gp z c) many (a0, a1, (IntKind.wrap .i64 (a2 - a1)), (IntKind.wrap .u64 (IntKind.wrap .i64 (a2 - a1))), y0, (IntKind.wrap .i64 ((IntKind.wrap .i64 (a1 + (IntKind.wrap .i64 (x1 * 2)))) - 1)), ()) with
  | none => none
  | some r => match r with
  | .inl (o2, _) => some (o2, ())
  | .inr _ => none
 | false => some (a0, ())
def AKV [Lk] {α : Type} (z : α) (c : α × α × Unit → Option U8) (v : (List α × Int × Int × Unit)) : Option ((List α × Unit)) := Lk.f ((Rq z c) v)
theorem AY2 {α : Type} (z : α) (c : α × α × Unit → Option U8) (v : (List α × Int × Int × Unit)) : (AKV z c) v = (Rq z c) v := AK _
def NP [Lk] {α : Type} (z : α) (c : α × α × Unit → Option U8) : (List α × Int × Int × Int × Unit) → Option ((List α × Int × Int × Int × Unit)) := fun (a0, a1, a2, a3, _) =>
 match idx a0 a2 with
 | none => none
 | some x0 => match idx a0 a1 with
 | none => none
 | some x1 => match c ((AW a0 (AM a2) z), (AW a0 (AM a1) z), ()) with
 | none => none
 | some (y2, _) => match (ilt y2 0) with
 | true => some (a0, (IntKind.wrap .i64 (a3 + 1)), a2, a1, ())
 | false => some (a0, a3, a1, a2, ())
def NQ [Lk] {α : Type} (z : α) (c : α × α × Unit → Option U8) (v : (List α × Int × Int × Int × Unit)) : Option ((List α × Int × Int × Int × Unit)) := Lk.f ((NP z c) v)
theorem ARs {α : Type} (z : α) (c : α × α × Unit → Option U8) (v : (List α × Int × Int × Int × Unit)) : (NQ z c) v = (NP z c) v := AK _
def NS [Lk] {α : Type} (z : α) (c : α × α × Unit → Option U8) : (List α × Int × Int × Int × Int × Unit) → Option ((List α × Int × Int × Unit)) := fun (a0, a1, a2, a3, a4, _) =>
 match (NQ z c) (a0, a1, a2, a4, ()) with
 | none => none
 | some (y0, y1, y2, y3, _) => match (NQ z c) (y0, y3, a3, y1, ()) with
 | none => none
 | some (y4, y5, y6, y7, _) => match (NQ z c) (y4, y2, y6, y5, ()) with
 | none => none
 | some (y8, y9, y10, y11, _) => some (y8, y9, y11, ())
def NT [Lk] {α : Type} (z : α) (c : α × α × Unit → Option U8) (v : (List α × Int × Int × Int × Int × Unit)) : Option ((List α × Int × Int × Unit)) := Lk.f ((NS z c) v)
theorem ASC {α : Type} (z : α) (c : α × α × Unit → Option U8) (v : (List α × Int × Int × Int × Int × Unit)) : (NT z c) v = (NS z c) v := AK _
def NU [Lk] {α : Type} (z : α) (c : α × α × Unit → Option U8) : (List α × Int × Int × Unit) → Option ((List α × Int × Int × Unit)) := fun (a0, a1, a2, _) =>
 match (NT z c) (a0, (IntKind.wrap .i64 (a1 - 1)), a1, (IntKind.wrap .i64 (a1 + 1)), a2, ()) with
 | none => none
 | some (y0, y1, y2, _) => some (y0, y1, y2, ())
def NV [Lk] {α : Type} (z : α) (c : α × α × Unit → Option U8) (v : (List α × Int × Int × Unit)) : Option ((List α × Int × Int × Unit)) := Lk.f ((NU z c) v)
theorem ASE {α : Type} (z : α) (c : α × α × Unit → Option U8) (v : (List α × Int × Int × Unit)) : (NV z c) v = (NU z c) v := AK _
def Qp [Lk] {α : Type} (z : α) (c : α × α × Unit → Option U8) : (List α × Int × Int × Unit) → Option ((List α × Int × Int × Unit)) := fun (a0, a1, a2, _) =>
 match quo? .i64 (IntKind.wrap .i64 (a2 - a1)) 4 with
 | none => none
 | some x0 => match quo? .i64 (IntKind.wrap .i64 (a2 - a1)) 4 with
 | none => none
 | some x1 => match quo? .i64 (IntKind.wrap .i64 (a2 - a1)) 4 with
 | none => none
 | some x2 => match (ile 8 (IntKind.wrap .i64 (a2 - a1))) with
 | true => match (ile 50 (IntKind.wrap .i64 (a2 - a1))) with
  | true => match (NV z c) (a0, (IntKind.wrap .i64 (a1 + (IntKind.wrap .i64 (x0 * 1)))), 0, ()) with
   | none => none
   | some (y3, y4, y5, _) => match (NV z c) (y3, (IntKind.wrap .i64 (a1 + (IntKind.wrap .i64 (x1 * 2)))), y4, ()) with
   | none => none
   | some (y6, y7, y8, _) => match (NV z c) (y6, (IntKind.wrap .i64 (a1 + (IntKind.wrap .i64 (x2 * 3)))), y7, ()) with
   | none => none
   | some (y9, y10, y11, _) => match (NT z c) (y9, y5, y8, y11, y10, ()) with
   | none => none
   | some (y12, y13, y14, _) => match (ieq y13 0) with
   | true => some (y12, y14, 1, ())
   | false => match (ieq y13 12) with
   | true => some (y12, y14, 2, ())
   | false => some (y12, y14, 0, ())
  | false => match (NT z c) (a0, (IntKind.wrap .i64 (a1 + (IntKind.wrap .i64 (x0 * 1)))), (IntKind.wrap .i64 (a1 + (IntKind.wrap .i64 (x1 * 2)))), (IntKind.wrap .i64 (a1 + (IntKind.wrap .i64 (x2 * 3)))), 0, ()) with
  | none => none
  | some (y15, y16, y17, _) => match (ieq y16 0) with
  | true => some (y15, y17, 1, ())
  | false => match (ieq y16 12) with
  | true => some (y15, y17, 2, ())
  | false => some (y15, y17, 0, ())
 | false => match (ieq 0 0) with
 | true => some (a0, (IntKind.wrap .i64 (a1 + (IntKind.wrap .i64 (x1 * 2)))), 1, ())
 | false => match (ieq 0 12) with
 | true => some (a0, (IntKind.wrap .i64 (a1 + (IntKind.wrap .i64 (x1 * 2)))), 2, ())
 | false => some (a0, (IntKind.wrap .i64 (a1 + (IntKind.wrap .i64 (x1 * 2)))), 0, ())
def AIi [Lk] {α : Type} (z : α) (c : α × α × Unit → Option U8) (v : (List α × Int × Int × Unit)) : Option ((List α × Int × Int × Unit)) := Lk.f ((Qp z c) v)
theorem AXP {α : Type} (z : α) (c : α × α × Unit → Option U8) (v : (List α × Int × Int × Unit)) : (AIi z c) v = (Qp z c) v := AK _
def Xt [Lk] {α : Type} (z : α) (c : α × α × Unit → Option U8) : (List α × Int × Int × Unit) → Option ((List α × Int × Int × Unit) ⊕ (List α × Unit) ⊕ Unit) := fun (a0, a1, a2, _) =>
 match (ilt a1 a2) with
 | true => match idx a0 a2 with
  | none => none
  | some x0 => match idx a0 a1 with
  | none => none
  | some x1 => match idx a0 a1 with
  | none => none
  | some x2 => match idx (An a0 (AM a1) (AW a0 (AM a2) z)) a2 with
  | none => none
  | some x3 => some (.inl ((An (An a0 (AM a1) (AW a0 (AM a2) z)) (AM a2) (AW a0 (AM a1) z)), (IntKind.wrap .i64 (a1 + 1)), (IntKind.wrap .i64 (a2 - 1)), ()))
 | false => some (.inr (.inl (a0, ())))
def AIS [Lk] {α : Type} (z : α) (c : α × α × Unit → Option U8) : (List α × Int × Int × Unit) → Option ((List α × Unit)) := fun (a0, a1, a2, _) =>
 match AR (Xt z c) many (a0, a1, (IntKind.wrap .i64 (a2 - 1)), ()) with
 | none => none
 | some r => match r with
 | .inl (o0, _) => some (o0, ())
 | .inr _ => none
def Adi [Lk] {α : Type} (z : α) (c : α × α × Unit → Option U8) (v : (List α × Int × Int × Unit)) : Option ((List α × Unit)) := Lk.f ((AIS z c) v)
theorem Adh {α : Type} (z : α) (c : α × α × Unit → Option U8) (v : (List α × Int × Int × Unit)) : (Adi z c) v = (AIS z c) v := AK _
def Fp [Lk] {α : Type} (z : α) (c : α × α × Unit → Option U8) : (List α × Int × Int × Int × Int × Int × Unit) → Option ((List α × Int × Int × Int × Int × Int × Unit) ⊕ (List α × Int × Int × Int × Int × Unit) ⊕ Unit) := fun (a0, a1, a2, a3, a4, a5, _) =>
 match (ilt a5 a2) with
 | true => match idx a0 a5 with
  | none => none
  | some x0 => match idx a0 (IntKind.wrap .i64 (a5 - 1)) with
  | none => none
  | some x1 => match c ((AW a0 (AM a5) z), (AW a0 (AM (IntKind.wrap .i64 (a5 - 1))) z), ()) with
  | none => none
  | some (y2, _) => match (!(ilt y2 0)) with
  | true => some (.inr (.inl (a0, a1, a2, a3, a4, ())))
  | false => match idx a0 (IntKind.wrap .i64 (a5 - 1)) with
  | none => none
  | some x3 => match idx a0 a5 with
  | none => none
  | some x4 => match idx a0 a5 with
  | none => none
  | some x5 => match idx (An a0 (AM a5) (AW a0 (AM (IntKind.wrap .i64 (a5 - 1))) z)) (IntKind.wrap .i64 (a5 - 1)) with
  | none => none
  | some x6 => some (.inl ((An (An a0 (AM a5) (AW a0 (AM (IntKind.wrap .i64 (a5 - 1))) z)) (AM (IntKind.wrap .i64 (a5 - 1))) (AW a0 (AM a5) z)), a1, a2, a3, a4, (IntKind.wrap .i64 (a5 + 1)), ()))
 | false => some (.inr (.inl (a0, a1, a2, a3, a4, ())))
def Fq [Lk] {α : Type} (z : α) (c : α × α × Unit → Option U8) : (List α × Int × Int × Int × Int × Int × Unit) → Option ((List α × Int × Int × Int × Int × Int × Unit) ⊕ (List α × Int × Int × Int × Int × Unit) ⊕ Unit) := fun (a0, a1, a2, a3, a4, a5, _) =>
 match (ile 1 a5) with
 | true => match idx a0 a5 with
  | none => none
  | some x0 => match idx a0 (IntKind.wrap .i64 (a5 - 1)) with
  | none => none
  | some x1 => match c ((AW a0 (AM a5) z), (AW a0 (AM (IntKind.wrap .i64 (a5 - 1))) z), ()) with
  | none => none
  | some (y2, _) => match (!(ilt y2 0)) with
  | true => some (.inr (.inl (a0, a1, a2, a3, a4, ())))
  | false => match idx a0 (IntKind.wrap .i64 (a5 - 1)) with
  | none => none
  | some x3 => match idx a0 a5 with
  | none => none
  | some x4 => match idx a0 a5 with
  | none => none
  | some x5 => match idx (An a0 (AM a5) (AW a0 (AM (IntKind.wrap .i64 (a5 - 1))) z)) (IntKind.wrap .i64 (a5 - 1)) with
  | none => none
  | some x6 => some (.inl ((An (An a0 (AM a5) (AW a0 (AM (IntKind.wrap .i64 (a5 - 1))) z)) (AM (IntKind.wrap .i64 (a5 - 1))) (AW a0 (AM a5) z)), a1, a2, a3, a4, (IntKind.wrap .i64 (a5 - 1)), ()))
 | false => some (.inr (.inl (a0, a1, a2, a3, a4, ())))
def H0 [Lk] {α : Type} (z : α) (c : α × α × Unit → Option U8) : (List α × Int × Int × Int × Int × Unit) → Option ((List α × Int × Int × Int × Int × Unit) ⊕ (List α × Int × Int × Int × Int × Unit) ⊕ Unit) := fun (a0, a1, a2, a3, a4, _) =>
 match (ilt a3 a2) with
 | true => match idx a0 a3 with
  | none => none
  | some x0 => match idx a0 (IntKind.wrap .i64 (a3 - 1)) with
  | none => none
  | some x1 => match c ((AW a0 (AM a3) z), (AW a0 (AM (IntKind.wrap .i64 (a3 - 1))) z), ()) with
  | none => none
  | some (y2, _) => match (!(ilt y2 0)) with
  | true => some (.inl (a0, a1, a2, (IntKind.wrap .i64 (a3 + 1)), a4, ()))
  | false => some (.inr (.inl (a0, a1, a2, a3, a4, ())))
 | false => some (.inr (.inl (a0, a1, a2, a3, a4, ())))
def CL [Lk] {α : Type} (z : α) (c : α × α × Unit → Option U8) : (List α × Int × Int × Int × Int × Unit) → Option ((List α × Int × Int × Int × Int × Unit) ⊕ (List α × Bool × Unit) ⊕ (List α × Unit) ⊕ Unit) := fun (a0, a1, a2, a3, a4, _) =>
 match (ilt a4 5) with
 | true => match AR (H0 z c) many (a0, a1, a2, a3, a4, ()) with
  | none => none
  | some r => match r with
  | .inl (o0, o1, o2, o3, o4, _) => match (ieq o3 o2) with
   | true => some (.inr (.inl (o0, true, ())))
   | false => match (ilt (IntKind.wrap .i64 (o2 - o1)) 50) with
   | true => some (.inr (.inl (o0, false, ())))
   | false => match idx o0 (IntKind.wrap .i64 (o3 - 1)) with
   | none => none
   | some x5 => match idx o0 o3 with
   | none => none
   | some x6 => match idx o0 o3 with
   | none => none
   | some x7 => match idx (An o0 (AM o3) (AW o0 (AM (IntKind.wrap .i64 (o3 - 1))) z)) (IntKind.wrap .i64 (o3 - 1)) with
   | none => none
   | some x8 => match (ile 2 (IntKind.wrap .i64 (o3 - o1))) with
   | true => match AR (Fq z c) many ((An (An o0 (AM o3) (AW o0 (AM (IntKind.wrap .i64 (o3 - 1))) z)) (AM (IntKind.wrap .i64 (o3 - 1))) (AW o0 (AM o3) z)), o1, o2, o3, o4, (IntKind.wrap .i64 (o3 - 1)), ()) with
    | none => none
    | some r => match r with
    | .inl (o9, o10, o11, o12, o13, _) => match (ile 2 (IntKind.wrap .i64 (o11 - o12))) with
     | true => match AR (Fp z c) many (o9, o10, o11, o12, o13, (IntKind.wrap .i64 (o12 + 1)), ()) with
      | none => none
      | some r => match r with
      | .inl (o14, o15, o16, o17, o18, _) => some (.inl (o14, o15, o16, o17, (IntKind.wrap .i64 (o18 + 1)), ()))
      | .inr _ => none
     | false => some (.inl (o9, o10, o11, o12, (IntKind.wrap .i64 (o13 + 1)), ()))
    | .inr _ => none
   | false => match (ile 2 (IntKind.wrap .i64 (o2 - o3))) with
   | true => match AR (Fp z c) many ((An (An o0 (AM o3) (AW o0 (AM (IntKind.wrap .i64 (o3 - 1))) z)) (AM (IntKind.wrap .i64 (o3 - 1))) (AW o0 (AM o3) z)), o1, o2, o3, o4, (IntKind.wrap .i64 (o3 + 1)), ()) with
    | none => none
    | some r => match r with
    | .inl (o19, o20, o21, o22, o23, _) => some (.inl (o19, o20, o21, o22, (IntKind.wrap .i64 (o23 + 1)), ()))
    | .inr _ => none
   | false => some (.inl ((An (An o0 (AM o3) (AW o0 (AM (IntKind.wrap .i64 (o3 - 1))) z)) (AM (IntKind.wrap .i64 (o3 - 1))) (AW o0 (AM o3) z)), o1, o2, o3, (IntKind.wrap .i64 (o4 + 1)), ()))
  | .inr _ => none
 | false => some (.inr (.inr (.inl (a0, ()))))
def J5 [Lk] {α : Type} (z : α) (c : α × α × Unit → Option U8) : (List α × Int × Int × Unit) → Option ((List α × Bool × Unit)) := fun (a0, a1, a2, _) =>
 match AR (CL z c) many (a0, a1, a2, (IntKind.wrap .i64 (a1 + 1)), 0, ()) with
 | none => none
 | some r => match r with
 | .inl (o0, o1, _) => some (o0, o1, ())
 | .inr r => match r with
 | .inl (o2, _) => some (o2, false, ())
 | .inr _ => none
def Qs [Lk] {α : Type} (z : α) (c : α × α × Unit → Option U8) (v : (List α × Int × Int × Unit)) : Option ((List α × Bool × Unit)) := Lk.f ((J5 z c) v)
theorem ANY {α : Type} (z : α) (c : α × α × Unit → Option U8) (v : (List α × Int × Int × Unit)) : (Qs z c) v = (J5 z c) v := AK _
def J6 [Lk] {α : Type} (z : α) (c : α × α × Unit → Option U8) : (List α × Int × Int × Int × Unit) → Option ((List α × Int × Int × Int × Unit) ⊕ (List α × Int × Int × Int × Unit) ⊕ Unit) := fun (a0, a1, a2, a3, _) =>
 match (ile a2 a3) with
 | true => match idx a0 a1 with
  | none => none
  | some x0 => match idx a0 a3 with
  | none => none
  | some x1 => match c ((AW a0 (AM a1) z), (AW a0 (AM a3) z), ()) with
  | none => none
  | some (y2, _) => match (ilt y2 0) with
  | true => some (.inl (a0, a1, a2, (IntKind.wrap .i64 (a3 - 1)), ()))
  | false => some (.inr (.inl (a0, a1, a2, a3, ())))
 | false => some (.inr (.inl (a0, a1, a2, a3, ())))
def J7 [Lk] {α : Type} (z : α) (c : α × α × Unit → Option U8) : (List α × Int × Int × Int × Unit) → Option ((List α × Int × Int × Int × Unit) ⊕ (List α × Int × Int × Int × Unit) ⊕ Unit) := fun (a0, a1, a2, a3, _) =>
 match (ile a2 a3) with
 | true => match idx a0 a1 with
  | none => none
  | some x0 => match idx a0 a2 with
  | none => none
  | some x1 => match c ((AW a0 (AM a1) z), (AW a0 (AM a2) z), ()) with
  | none => none
  | some (y2, _) => match (!(ilt y2 0)) with
  | true => some (.inl (a0, a1, (IntKind.wrap .i64 (a2 + 1)), a3, ()))
  | false => some (.inr (.inl (a0, a1, a2, a3, ())))
 | false => some (.inr (.inl (a0, a1, a2, a3, ())))
def J8 [Lk] {α : Type} (z : α) (c : α × α × Unit → Option U8) : (List α × Int × Int × Int × Unit) → Option ((List α × Int × Int × Int × Unit) ⊕ (List α × Int × Unit) ⊕ Unit) := fun (a0, a1, a2, a3, _) =>
 match AR (J7 z c) many (a0, a1, a2, a3, ()) with
 | none => none
 | some r => match r with
 | .inl (o0, o1, o2, o3, _) => match AR (J6 z c) many (o0, o1, o2, o3, ()) with
  | none => none
  | some r => match r with
  | .inl (o4, o5, o6, o7, _) => match (ilt o7 o6) with
   | true => some (.inr (.inl (o4, o6, ())))
   | false => match idx o4 o7 with
   | none => none
   | some x8 => match idx o4 o6 with
   | none => none
   | some x9 => match idx o4 o6 with
   | none => none
   | some x10 => match idx (An o4 (AM o6) (AW o4 (AM o7) z)) o7 with
   | none => none
   | some x11 => some (.inl ((An (An o4 (AM o6) (AW o4 (AM o7) z)) (AM o7) (AW o4 (AM o6) z)), o5, (IntKind.wrap .i64 (o6 + 1)), (IntKind.wrap .i64 (o7 - 1)), ()))
  | .inr _ => none
 | .inr _ => none
def NN [Lk] {α : Type} (z : α) (c : α × α × Unit → Option U8) : (List α × Int × Int × Int × Unit) → Option ((List α × Int × Unit)) := fun (a0, a1, a2, a3, _) =>
 match idx a0 a3 with
 | none => none
 | some x0 => match idx a0 a1 with
 | none => none
 | some x1 => match idx a0 a1 with
 | none => none
 | some x2 => match idx (An a0 (AM a1) (AW a0 (AM a3) z)) a3 with
 | none => none
 | some x3 => match AR (J8 z c) many ((An (An a0 (AM a1) (AW a0 (AM a3) z)) (AM a3) (AW a0 (AM a1) z)), a1, (IntKind.wrap .i64 (a1 + 1)), (IntKind.wrap .i64 (a2 - 1)), ()) with
 | none => none
 | some r => match r with
 | .inl (o4, o5, _) => some (o4, o5, ())
 | .inr _ => none
def Xx [Lk] {α : Type} (z : α) (c : α × α × Unit → Option U8) (v : (List α × Int × Int × Int × Unit)) : Option ((List α × Int × Unit)) := Lk.f ((NN z c) v)
theorem ARq {α : Type} (z : α) (c : α × α × Unit → Option U8) (v : (List α × Int × Int × Int × Unit)) : (Xx z c) v = (NN z c) v := AK _
def Qt [Lk] {α : Type} (z : α) (c : α × α × Unit → Option U8) : (List α × Int × Int × Int × Unit) → Option ((List α × Int × Int × Int × Unit) ⊕ (List α × Int × Int × Int × Unit) ⊕ Unit) := fun (a0, a1, a2, a3, _) =>
 match (ile a2 a3) with
 | true => match idx a0 a3 with
  | none => none
  | some x0 => match idx a0 a1 with
  | none => none
  | some x1 => match c ((AW a0 (AM a3) z), (AW a0 (AM a1) z), ()) with
  | none => none
  | some (y2, _) => match (!(ilt y2 0)) with
  | true => some (.inl (a0, a1, a2, (IntKind.wrap .i64 (a3 - 1)), ()))
  | false => some (.inr (.inl (a0, a1, a2, a3, ())))
 | false => some (.inr (.inl (a0, a1, a2, a3, ())))
def Qu [Lk] {α : Type} (z : α) (c : α × α × Unit → Option U8) : (List α × Int × Int × Int × Unit) → Option ((List α × Int × Int × Int × Unit) ⊕ (List α × Int × Int × Int × Unit) ⊕ Unit) := fun (a0, a1, a2, a3, _) =>
 match (ile a2 a3) with
 | true => match idx a0 a2 with
  | none => none
  | some x0 => match idx a0 a1 with
  | none => none
  | some x1 => match c ((AW a0 (AM a2) z), (AW a0 (AM a1) z), ()) with
  | none => none
  | some (y2, _) => match (ilt y2 0) with
  | true => some (.inl (a0, a1, (IntKind.wrap .i64 (a2 + 1)), a3, ()))
  | false => some (.inr (.inl (a0, a1, a2, a3, ())))
 | false => some (.inr (.inl (a0, a1, a2, a3, ())))
def Qv [Lk] {α : Type} (z : α) (c : α × α × Unit → Option U8) : (List α × Int × Int × Int × Unit) → Option ((List α × Int × Int × Int × Unit) ⊕ (List α × Int × Int × Unit) ⊕ Unit) := fun (a0, a1, a2, a3, _) =>
 match AR (Qu z c) many (a0, a1, a2, a3, ()) with
 | none => none
 | some r => match r with
 | .inl (o0, o1, o2, o3, _) => match AR (Qt z c) many (o0, o1, o2, o3, ()) with
  | none => none
  | some r => match r with
  | .inl (o4, o5, o6, o7, _) => match (ilt o7 o6) with
   | true => some (.inr (.inl (o4, o5, o7, ())))
   | false => match idx o4 o7 with
   | none => none
   | some x8 => match idx o4 o6 with
   | none => none
   | some x9 => match idx o4 o6 with
   | none => none
   | some x10 => match idx (An o4 (AM o6) (AW o4 (AM o7) z)) o7 with
   | none => none
   | some x11 => some (.inl ((An (An o4 (AM o6) (AW o4 (AM o7) z)) (AM o7) (AW o4 (AM o6) z)), o5, (IntKind.wrap .i64 (o6 + 1)), (IntKind.wrap .i64 (o7 - 1)), ()))
  | .inr _ => none
 | .inr _ => none
def Qw [Lk] {α : Type} (z : α) (c : α × α × Unit → Option U8) : (List α × Int × Int × Int × Unit) → Option ((List α × Int × Int × Int × Unit) ⊕ (List α × Int × Int × Int × Unit) ⊕ Unit) := fun (a0, a1, a2, a3, _) =>
 match (ile a2 a3) with
 | true => match idx a0 a3 with
  | none => none
  | some x0 => match idx a0 a1 with
  | none => none
  | some x1 => match c ((AW a0 (AM a3) z), (AW a0 (AM a1) z), ()) with
  | none => none
  | some (y2, _) => match (!(ilt y2 0)) with
  | true => some (.inl (a0, a1, a2, (IntKind.wrap .i64 (a3 - 1)), ()))
  | false => some (.inr (.inl (a0, a1, a2, a3, ())))
 | false => some (.inr (.inl (a0, a1, a2, a3, ())))
def Qx [Lk] {α : Type} (z : α) (c : α × α × Unit → Option U8) : (List α × Int × Int × Int × Unit) → Option ((List α × Int × Int × Int × Unit) ⊕ (List α × Int × Int × Int × Unit) ⊕ Unit) := fun (a0, a1, a2, a3, _) =>
 match (ile a2 a3) with
 | true => match idx a0 a2 with
  | none => none
  | some x0 => match idx a0 a1 with
  | none => none
  | some x1 => match c ((AW a0 (AM a2) z), (AW a0 (AM a1) z), ()) with
  | none => none
  | some (y2, _) => match (ilt y2 0) with
  | true => some (.inl (a0, a1, (IntKind.wrap .i64 (a2 + 1)), a3, ()))
  | false => some (.inr (.inl (a0, a1, a2, a3, ())))
 | false => some (.inr (.inl (a0, a1, a2, a3, ())))
def Xw [Lk] {α : Type} (z : α) (c : α × α × Unit → Option U8) : (List α × Int × Int × Int × Unit) → Option ((List α × Int × Bool × Unit)) := fun (a0, a1, a2, a3, _) =>
 match idx a0 a3 with
 | none => none
 | some x0 => match idx a0 a1 with
 | none => none
 | some x1 => match idx a0 a1 with
 | none => none
 | some x2 => match idx (An a0 (AM a1) (AW a0 (AM a3) z)) a3 with
 | none => none
 | some x3 => match AR (Qx z c) many ((An (An a0 (AM a1) (AW a0 (AM a3) z)) (AM a3) (AW a0 (AM a1) z)), a1, (IntKind.wrap .i64 (a1 + 1)), (IntKind.wrap .i64 (a2 - 1)), ()) with
 | none => none
 | some r => match r with
 | .inl (o4, o5, o6, o7, _) => match AR (Qw z c) many (o4, o5, o6, o7, ()) with
  | none => none
  | some r => match r with
  | .inl (o8, o9, o10, o11, _) => match (ilt o11 o10) with
   | true => match idx o8 o9 with
    | none => none
    | some x12 => match idx o8 o11 with
    | none => none
    | some x13 => match idx o8 o11 with
    | none => none
    | some x14 => match idx (An o8 (AM o11) (AW o8 (AM o9) z)) o9 with
    | none => none
    | some x15 => some ((An (An o8 (AM o11) (AW o8 (AM o9) z)) (AM o9) (AW o8 (AM o11) z)), o11, true, ())
   | false => match idx o8 o11 with
   | none => none
   | some x16 => match idx o8 o10 with
   | none => none
   | some x17 => match idx o8 o10 with
   | none => none
   | some x18 => match idx (An o8 (AM o10) (AW o8 (AM o11) z)) o11 with
   | none => none
   | some x19 => match AR (Qv z c) many ((An (An o8 (AM o10) (AW o8 (AM o11) z)) (AM o11) (AW o8 (AM o10) z)), o9, (IntKind.wrap .i64 (o10 + 1)), (IntKind.wrap .i64 (o11 - 1)), ()) with
   | none => none
   | some r => match r with
   | .inl (o20, o21, o22, _) => match idx o20 o21 with
    | none => none
    | some x23 => match idx o20 o22 with
    | none => none
    | some x24 => match idx o20 o22 with
    | none => none
    | some x25 => match idx (An o20 (AM o22) (AW o20 (AM o21) z)) o21 with
    | none => none
    | some x26 => some ((An (An o20 (AM o22) (AW o20 (AM o21) z)) (AM o21) (AW o20 (AM o22) z)), o22, false, ())
   | .inr _ => none
  | .inr _ => none
 | .inr _ => none
def AFh [Lk] {α : Type} (z : α) (c : α × α × Unit → Option U8) (v : (List α × Int × Int × Int × Unit)) : Option ((List α × Int × Bool × Unit)) := Lk.f ((Xw z c) v)
theorem Aa3 {α : Type} (z : α) (c : α × α × Unit → Option U8) (v : (List α × Int × Int × Int × Unit)) : (AFh z c) v = (Xw z c) v := AK _
def Ti [Lk] {α : Type} (z : α) (c : α × α × Unit → Option U8) (self : (List α × Int × Int × Int × Unit) → Option ((List α × Unit))) (y7 : List α) (a1 a2 p l : Int) (a4 a5 : Bool) : Option ((List α × Int × Int × Int × Bool × Bool × Unit) ⊕ (List α × Unit) ⊕ Unit) :=
 match (ilt 0 a1) with
 | true => match idx y7 (IntKind.wrap .i64 (a1 - 1)) with
  | none => none
  | some x9 => match idx y7 p with
  | none => none
  | some x10 => match c ((AW y7 (AM (IntKind.wrap .i64 (a1 - 1))) z), (AW y7 (AM p) z), ()) with
  | none => none
  | some (y11, _) => match (!(ilt y11 0)) with
  | true => match (Xx z c) (y7, a1, a2, p, ()) with
   | none => none
   | some (y12, y13, _) => some (.inl (y12, y13, a2, l, a4, a5, ()))
  | false => match (AFh z c) (y7, a1, a2, p, ()) with
  | none => none
  | some (y14, y15, y16, _) => match quo? .i64 (IntKind.wrap .i64 (a2 - a1)) 8 with
  | none => none
  | some x17 => match (ilt (IntKind.wrap .i64 (y15 - a1)) (IntKind.wrap .i64 (a2 - y15))) with
  | true => match self (y14, a1, y15, l, ()) with
   | none => none
   | some (y18, _) => some (.inl (y18, (IntKind.wrap .i64 (y15 + 1)), a2, l, (ile x17 (IntKind.wrap .i64 (y15 - a1))), y16, ()))
  | false => match self (y14, (IntKind.wrap .i64 (y15 + 1)), a2, l, ()) with
  | none => none
  | some (y19, _) => some (.inl (y19, a1, y15, l, (ile x17 (IntKind.wrap .i64 (a2 - y15))), y16, ()))
 | false => match (AFh z c) (y7, a1, a2, p, ()) with
 | none => none
 | some (y20, y21, y22, _) => match quo? .i64 (IntKind.wrap .i64 (a2 - a1)) 8 with
 | none => none
 | some x23 => match (ilt (IntKind.wrap .i64 (y21 - a1)) (IntKind.wrap .i64 (a2 - y21))) with
 | true => match self (y20, a1, y21, l, ()) with
  | none => none
  | some (y24, _) => some (.inl (y24, (IntKind.wrap .i64 (y21 + 1)), a2, l, (ile x23 (IntKind.wrap .i64 (y21 - a1))), y22, ()))
 | false => match self (y20, (IntKind.wrap .i64 (y21 + 1)), a2, l, ()) with
 | none => none
 | some (y25, _) => some (.inl (y25, a1, y21, l, (ile x23 (IntKind.wrap .i64 (a2 - y21))), y22, ()))
def AIm [Lk] {α : Type} (z : α) (c : α × α × Unit → Option U8) (self : (List α × Int × Int × Int × Unit) → Option ((List α × Unit))) (y6 : List α) (a1 a2 p h l : Int) (a4 a5 : Bool) : Option ((List α × Int × Int × Int × Bool × Bool × Unit) ⊕ (List α × Unit) ⊕ Unit) :=
 match a4 with
 | true => match a5 with
  | true => match (ieq h 1) with
   | true => match (Qs z c) (y6, a1, a2, ()) with
    | none => none
    | some (y7, y8, _) => match y8 with
    | true => some (.inr (.inl (y7, ())))
    | false => (Ti z c) self y7 a1 a2 p l a4 a5
   | false => (Ti z c) self y6 a1 a2 p l a4 a5
  | false => (Ti z c) self y6 a1 a2 p l a4 a5
 | false => (Ti z c) self y6 a1 a2 p l a4 a5
def AIl [Lk] {α : Type} (z : α) (c : α × α × Unit → Option U8) (self : (List α × Int × Int × Int × Unit) → Option ((List α × Unit))) (y2 : List α) (a1 a2 l : Int) (a4 a5 : Bool) : Option ((List α × Int × Int × Int × Bool × Bool × Unit) ⊕ (List α × Unit) ⊕ Unit) :=
 match (AIi z c) (y2, a1, a2, ()) with
 | none => none
 | some (y3, y4, y5, _) => match (ieq y5 2) with
 | true => match (Adi z c) (y3, a1, a2, ()) with
  | none => none
  | some (y6, _) => (AIm z c) self y6 a1 a2 (IntKind.wrap .i64 ((IntKind.wrap .i64 (a2 - 1)) - (IntKind.wrap .i64 (y4 - a1)))) 1 l a4 a5
 | false => (AIm z c) self y3 a1 a2 y4 y5 l a4 a5
def Qr [Lk] {α : Type} (z : α) (c : α × α × Unit → Option U8) (self : (List α × Int × Int × Int × Unit) → Option ((List α × Unit))) : (List α × Int × Int × Int × Bool × Bool × Unit) → Option ((List α × Int × Int × Int × Bool × Bool × Unit) ⊕ (List α × Unit) ⊕ Unit) := fun (a0, a1, a2, a3, a4, a5, _) =>
 match (ile (IntKind.wrap .i64 (a2 - a1)) 12) with
 | true => match (Abl z c) (a0, a1, a2, ()) with
  | none => none
  | some (y0, _) => some (.inr (.inl (y0, ())))
 | false => match (ieq a3 0) with
 | true => match (AVS z c) (a0, a1, a2, ()) with
  | none => none
  | some (y1, _) => some (.inr (.inl (y1, ())))
 | false => match (!a4) with
 | true => match (AKV z c) (a0, a1, a2, ()) with
  | none => none
  | some (y2, _) => (AIl z c) self y2 a1 a2 (IntKind.wrap .i64 (a3 - 1)) a4 a5
 | false => (AIl z c) self a0 a1 a2 a3 a4 a5
def AIn [Lk] {α : Type} (z : α) (c : α × α × Unit → Option U8) (self : (List α × Int × Int × Int × Unit) → Option ((List α × Unit))) : (List α × Int × Int × Int × Unit) → Option ((List α × Unit)) := fun (a0, a1, a2, a3, _) =>
 match AR ((Qr z c) self) many (a0, a1, a2, a3, true, true, ()) with
 | none => none
 | some r => match r with
 | .inl (o0, _) => some (o0, ())
 | .inr _ => none
def Ln [Lk] {α : Type} (z : α) (c : α × α × Unit → Option U8) : Nat → (List α × Int × Int × Int × Unit) → Option ((List α × Unit))
 | 0, _ => none
 | n + 1, v => (AIn z c) ((Ln z c) n) v
def Adp [Lk] {α : Type} (z : α) (c : α × α × Unit → Option U8) (v : (List α × Int × Int × Int × Unit)) : Option ((List α × Unit)) := Lk.f ((Ln z c) 100 v)
theorem Ado {α : Type} (z : α) (c : α × α × Unit → Option U8) (v : (List α × Int × Int × Int × Unit)) : (Adp z c) v = (Ln z c) 100 v := AK _
def Xo [Lk] {α : Type} (z : α) (c : α × α × Unit → Option U8) : (List α × Unit) → Option ((List α × Unit)) := fun (a0, _) =>
 match bitsLen ((IntKind.wrap .u64 (AO a0)), ()) with
 | none => none
 | some (y0, _) => match (Adp z c) (a0, 0, (AO a0), y0, ()) with
 | none => none
 | some (y1, _) => some (y1, ())
def AZ8 [Lk] {α : Type} (z : α) (c : α × α × Unit → Option U8) (v : (List α × Unit)) : Option ((List α × Unit)) := Lk.f ((Xo z c) v)
theorem AZ7 {α : Type} (z : α) (c : α × α × Unit → Option U8) (v : (List α × Unit)) : (AZ8 z c) v = (Xo z c) v := AK _
abbrev ASs : AE := [(.tmp 0, .own 55 U5), (.tmp 1, .di), (.tmp 2, .di), (.tmp 3, .clo 204 [])]
abbrev ASr : AE := [(.obj 0, .own 55 U5)]
abbrev ASq : List RS := []
abbrev AVK : AE := [(.obj 0, .own 55 U5), (.tmp 0, .own' 0), (.tmp 1, .di), (.tmp 2, .di), (.tmp 3, .clo 204 []), (.tmp 8, .di), (.tmp 9, .di)]
abbrev AVI : Am := [(.exit 2, [(.obj 0, .own 55 U5), (.tmp 0, .own' 0), (.tmp 1, .di), (.tmp 2, .di), (.tmp 3, .clo 204 []), (.tmp 8, .di)])]
def AVG [Lk] : Ug → Option (Ug ⊕ U6 ⊕ Unit) := Fa (([] : List (Int)) : U3) A9
abbrev AVL : AE := [(.obj 0, .own 55 U5), (.tmp 0, .own' 0), (.tmp 1, .di), (.tmp 2, .di), (.tmp 3, .clo 204 []), (.tmp 8, .di)]
abbrev AVJ : Am := [(.exit 0, [(.obj 0, .own 55 U5)])]
def AVH [Lk] : U6 → Option (U6 ⊕ Ui ⊕ Unit) := Dh (([] : List (Int)) : U3) A9
def Abi [Lk] : Ud → Option (Ui) := PO (([] : List (Int)) : U3) A9
def AfK [Lk] (v : Ud) : Option (Ui) := Abl (([] : List (Int)) : U3) A9 v
theorem AeF v : AfK v = Abi v := AK _
abbrev AH6 : AE := [(.tmp 0, .own 55 U5), (.tmp 1, .di), (.tmp 2, .di), (.tmp 3, .di), (.tmp 4, .clo 204 [])]
abbrev AH5 : AE := [(.obj 0, .own 55 U5)]
abbrev AH4 : List RS := []
abbrev AMP : AE := [(.obj 0, .own 55 U5), (.tmp 0, .own' 0), (.tmp 2, .di), (.tmp 3, .di), (.tmp 4, .clo 204 []), (.tmp 10, .di)]
abbrev AMO : Am := [(.exit 0, [(.obj 0, .own 55 U5)]), (.ret, [(.obj 0, .own 55 U5)])]
def AMN [Lk] : U6 → Option (U6 ⊕ Ui ⊕ Ui ⊕ Unit) := Lc (([] : List (Int)) : U3) A9
def AUb [Lk] : U6 → Option (Ui) := Xp (([] : List (Int)) : U3) A9
def AaQ [Lk] (v : U6) : Option (Ui) := AMQ (([] : List (Int)) : U3) A9 v
theorem AaP v : AaQ v = AUb v := AK _
abbrev AJY : AE := [(.tmp 0, .own 55 U5), (.tmp 1, .di), (.tmp 2, .di), (.tmp 3, .clo 204 [])]
abbrev AJX : AE := [(.obj 0, .own 55 U5)]
abbrev AJW : List RS := []
abbrev AOJ : AE := [(.obj 0, .own 55 U5), (.tmp 0, .own' 0), (.tmp 3, .clo 204 []), (.tmp 8, .di), (.tmp 9, .di), (.tmp 12, .di)]
abbrev AOH : Am := [(.exit 2, [(.obj 0, .own 55 U5)])]
def AOE [Lk] : U6 → Option (U6 ⊕ Ui ⊕ Unit) := L5 (([] : List (Int)) : U3) A9
abbrev AOK : AE := [(.obj 0, .own 55 U5), (.tmp 0, .own' 0), (.tmp 3, .clo 204 []), (.tmp 8, .di), (.tmp 9, .di), (.tmp 10, .di), (.tmp 11, .di)]
abbrev AOI : Am := [(.exit 0, [(.obj 0, .own 55 U5), (.tmp 0, .own' 0), (.tmp 3, .clo 204 []), (.tmp 8, .di), (.tmp 9, .di), (.tmp 10, .di)])]
def AOG [Lk] : Ug → Option (Ug ⊕ U6 ⊕ Unit) := L6 (([] : List (Int)) : U3) A9
def AVR [Lk] : Ud → Option (Ui) := X2 (([] : List (Int)) : U3) A9
def Aby [Lk] (v : Ud) : Option (Ui) := AVS (([] : List (Int)) : U3) A9 v
theorem Abx v : Aby v = AVR v := AK _
abbrev ACk : AE := [(.tmp 0, .own 55 U5), (.tmp 1, .di), (.tmp 2, .di), (.tmp 3, .clo 204 [])]
abbrev ACj : AE := [(.obj 0, .own 55 U5)]
abbrev ACi : List RS := []
abbrev AGN : AE := [(.obj 0, .own 55 U5), (.tmp 0, .own' 0), (.tmp 1, .di), (.tmp 8, .di), (.tmp 9, .box 1), (.cell 1 0, .dat (.int .u64)), (.tmp 10, .dat (.int .u64)), (.tmp 11, .di)]
abbrev AGM : Am := [(.exit 0, [(.obj 0, .own 55 U5)])]
def AGL [Lk] : Ut → Option (Ut ⊕ Ui ⊕ Unit) := Gp (([] : List (Int)) : U3) A9
def APD [Lk] : Ud → Option (Ui) := Rq (([] : List (Int)) : U3) A9
def ATp [Lk] (v : Ud) : Option (Ui) := AKV (([] : List (Int)) : U3) A9 v
theorem AY1 v : ATp v = APD v := AK _
abbrev To : AE := [(.tmp 0, .own 55 U5), (.tmp 1, .di), (.tmp 2, .di), (.tmp 3, .box 1), (.cell 1 0, .di), (.tmp 4, .clo 204 [])]
abbrev Tn : AE := [(.obj 0, .own 55 U5), (.obj 1, .box 1), (.cell 1 0, .di), (.tmp 0, .di), (.tmp 1, .di)]
abbrev Tm : List RS := [.one, .one]
def AFk [Lk] : U6 → Option (U6) := NP (([] : List (Int)) : U3) A9
def AIx [Lk] (v : U6) : Option (U6) := NQ (([] : List (Int)) : U3) A9 v
theorem ARr v : AIx v = AFk v := AK _
abbrev Tv : AE := [(.tmp 0, .own 55 U5), (.tmp 1, .di), (.tmp 2, .di), (.tmp 3, .di), (.tmp 4, .box 1), (.cell 1 0, .di), (.tmp 5, .clo 204 [])]
abbrev Tu : AE := [(.obj 0, .own 55 U5), (.obj 1, .box 1), (.cell 1 0, .di), (.tmp 0, .di)]
abbrev Tt : List RS := [.one]
def AFm [Lk] : Ug → Option (Ud) := NS (([] : List (Int)) : U3) A9
def AI6 [Lk] (v : Ug) : Option (Ud) := NT (([] : List (Int)) : U3) A9 v
theorem ASB v : AI6 v = AFm v := AK _
abbrev Tz : AE := [(.tmp 0, .own 55 U5), (.tmp 1, .di), (.tmp 2, .box 1), (.cell 1 0, .di), (.tmp 3, .clo 204 [])]
abbrev Tx : AE := [(.obj 0, .own 55 U5), (.obj 1, .box 1), (.cell 1 0, .di), (.tmp 0, .di)]
abbrev Tw : List RS := [.one]
def AFn [Lk] : Ud → Option (Ud) := NU (([] : List (Int)) : U3) A9
def AI8 [Lk] (v : Ud) : Option (Ud) := NV (([] : List (Int)) : U3) A9 v
theorem ASD v : AI8 v = AFn v := AK _
abbrev AAl : AE := [(.tmp 0, .own 55 U5), (.tmp 1, .di), (.tmp 2, .di), (.tmp 3, .clo 204 [])]
abbrev AAk : AE := [(.obj 0, .own 55 U5), (.tmp 0, .di), (.tmp 1, .di)]
abbrev AAj : List RS := [.one, .one]
def AM0 [Lk] : Ud → Option (Ud) := Qp (([] : List (Int)) : U3) A9
def ARa [Lk] (v : Ud) : Option (Ud) := AIi (([] : List (Int)) : U3) A9 v
theorem AXO v : ARa v = AM0 v := AK _
abbrev ARC : AE := [(.tmp 0, .own 55 U5), (.tmp 1, .di), (.tmp 2, .di), (.tmp 3, .clo 204 [])]
abbrev ARB : AE := [(.obj 0, .own 55 U5)]
abbrev ARA : List RS := []
abbrev AUj : AE := [(.obj 0, .own 55 U5), (.tmp 0, .own' 0), (.tmp 8, .di), (.tmp 9, .di)]
abbrev AUi : Am := [(.exit 0, [(.obj 0, .own 55 U5)])]
def AUh [Lk] : Ud → Option (Ud ⊕ Ui ⊕ Unit) := Xt (([] : List (Int)) : U3) A9
def Aae [Lk] : Ud → Option (Ui) := AIS (([] : List (Int)) : U3) A9
def Ae3 [Lk] (v : Ud) : Option (Ui) := Adi (([] : List (Int)) : U3) A9 v
theorem Adg v : Ae3 v = Aae v := AK _
abbrev O7 : AE := [(.tmp 0, .own 55 U5), (.tmp 1, .di), (.tmp 2, .di), (.tmp 3, .clo 204 [])]
abbrev O6 : AE := [(.obj 0, .own 55 U5), (.tmp 0, .dat .bool)]
abbrev O5 : List RS := [.one]
abbrev WQ : AE := [(.obj 0, .own 55 U5), (.tmp 0, .own' 0), (.tmp 1, .di), (.tmp 2, .di), (.tmp 3, .clo 204 []), (.tmp 9, .di), (.tmp 10, .di), (.tmp 12, .di)]
abbrev WL : Am := [(.exit 6, [(.obj 0, .own 55 U5), (.tmp 0, .own' 0), (.tmp 1, .di), (.tmp 2, .di), (.tmp 3, .clo 204 []), (.tmp 9, .di), (.tmp 10, .di)])]
def WH [Lk] : Ut → Option (Ut ⊕ Ug ⊕ Unit) := Fp (([] : List (Int)) : U3) A9
abbrev WR : AE := [(.obj 0, .own 55 U5), (.tmp 0, .own' 0), (.tmp 1, .di), (.tmp 2, .di), (.tmp 3, .clo 204 []), (.tmp 9, .di), (.tmp 10, .di), (.tmp 11, .di)]
abbrev WM : Am := [(.exit 4, [(.obj 0, .own 55 U5), (.tmp 0, .own' 0), (.tmp 1, .di), (.tmp 2, .di), (.tmp 3, .clo 204 []), (.tmp 9, .di), (.tmp 10, .di)])]
def WI [Lk] : Ut → Option (Ut ⊕ Ug ⊕ Unit) := Fq (([] : List (Int)) : U3) A9
abbrev WS : AE := [(.obj 0, .own 55 U5), (.tmp 0, .own' 0), (.tmp 1, .di), (.tmp 2, .di), (.tmp 3, .clo 204 []), (.tmp 9, .di), (.tmp 10, .di)]
abbrev WN : Am := [(.exit 2, [(.obj 0, .own 55 U5), (.tmp 0, .own' 0), (.tmp 1, .di), (.tmp 2, .di), (.tmp 3, .clo 204 []), (.tmp 9, .di), (.tmp 10, .di)])]
def WJ [Lk] : Ug → Option (Ug ⊕ Ug ⊕ Unit) := H0 (([] : List (Int)) : U3) A9
abbrev WT : AE := [(.obj 0, .own 55 U5), (.tmp 0, .own' 0), (.tmp 1, .di), (.tmp 2, .di), (.tmp 3, .clo 204 []), (.tmp 9, .di), (.tmp 10, .di)]
abbrev WO : Am := [(.ret, [(.obj 0, .own 55 U5), (.tmp 8, .dat .bool)]), (.exit 0, [(.obj 0, .own 55 U5)])]
def WK [Lk] : Ug → Option (Ug ⊕ (List U3 × Bool × Unit) ⊕ Ui ⊕ Unit) := CL (([] : List (Int)) : U3) A9
def AAu [Lk] : Ud → Option ((List U3 × Bool × Unit)) := J5 (([] : List (Int)) : U3) A9
def AAv [Lk] (v : Ud) : Option ((List U3 × Bool × Unit)) := Qs (([] : List (Int)) : U3) A9 v
theorem ANX v : AAv v = AAu v := AK _
abbrev Tl : AE := [(.tmp 0, .own 55 U5), (.tmp 1, .di), (.tmp 2, .di), (.tmp 3, .di), (.tmp 4, .clo 204 [])]
abbrev Tk : AE := [(.obj 0, .own 55 U5), (.tmp 0, .di)]
abbrev Tj : List RS := [.one]
abbrev AA2 : AE := [(.obj 0, .own 55 U5), (.tmp 0, .own' 0), (.tmp 1, .di), (.tmp 4, .clo 204 []), (.tmp 11, .di), (.tmp 12, .di)]
abbrev AAz : Am := [(.exit 4, [(.obj 0, .own 55 U5), (.tmp 0, .own' 0), (.tmp 1, .di), (.tmp 4, .clo 204 []), (.tmp 11, .di), (.tmp 12, .di)])]
def AAw [Lk] : U6 → Option V5 := J6 (([] : List (Int)) : U3) A9
abbrev AA3 : AE := [(.obj 0, .own 55 U5), (.tmp 0, .own' 0), (.tmp 1, .di), (.tmp 4, .clo 204 []), (.tmp 11, .di), (.tmp 12, .di)]
abbrev AA0 : Am := [(.exit 2, [(.obj 0, .own 55 U5), (.tmp 0, .own' 0), (.tmp 1, .di), (.tmp 4, .clo 204 []), (.tmp 11, .di), (.tmp 12, .di)])]
def AAx [Lk] : U6 → Option V5 := J7 (([] : List (Int)) : U3) A9
abbrev AA4 : AE := [(.obj 0, .own 55 U5), (.tmp 0, .own' 0), (.tmp 1, .di), (.tmp 4, .clo 204 []), (.tmp 11, .di), (.tmp 12, .di)]
abbrev AA1 : Am := [(.exit 0, [(.obj 0, .own 55 U5), (.tmp 11, .di)])]
def AAy [Lk] : U6 → Option (U6 ⊕ V2 ⊕ Unit) := J8 (([] : List (Int)) : U3) A9
def AFi [Lk] : U6 → Option (V2) := NN (([] : List (Int)) : U3) A9
def AIu [Lk] (v : U6) : Option (V2) := Xx (([] : List (Int)) : U3) A9 v
theorem ARp v : AIu v = AFi v := AK _
end
end Go.Pev
end
section
namespace Go.Pev
set_option maxRecDepth 100000
noncomputable section
attribute [local irreducible] OK KL PS N5 Abq Abr Abs Qm AAQ Zf Ze KS AT many IntKind.wrap AO An AW A8 DD DS JO AM CW Cb imax Af Ak
abbrev AIq : AE := [(.tmp 0, .own 55 U5), (.tmp 1, .di), (.tmp 2, .di), (.tmp 3, .di), (.tmp 4, .clo 204 [])]
abbrev AIp : AE := [(.obj 0, .own 55 U5), (.tmp 0, .di), (.tmp 1, .dat .bool)]
abbrev AIo : List RS := [.one, .one]
abbrev ANK : AE := [(.obj 0, .own 55 U5), (.tmp 0, .own' 0), (.tmp 1, .di), (.tmp 4, .clo 204 []), (.tmp 12, .di), (.tmp 13, .di)]
abbrev ANF : Am := [(.exit 8, [(.obj 0, .own 55 U5), (.tmp 0, .own' 0), (.tmp 1, .di), (.tmp 4, .clo 204 []), (.tmp 12, .di), (.tmp 13, .di)])]
def AM6 [Lk] : U6 → Option V5 := Qt (([] : List (Int)) : U3) A9
abbrev ANL : AE := [(.obj 0, .own 55 U5), (.tmp 0, .own' 0), (.tmp 1, .di), (.tmp 4, .clo 204 []), (.tmp 12, .di), (.tmp 13, .di)]
abbrev ANG : Am := [(.exit 6, [(.obj 0, .own 55 U5), (.tmp 0, .own' 0), (.tmp 1, .di), (.tmp 4, .clo 204 []), (.tmp 12, .di), (.tmp 13, .di)])]
def AM8 [Lk] : U6 → Option V5 := Qu (([] : List (Int)) : U3) A9
abbrev ANM : AE := [(.obj 0, .own 55 U5), (.tmp 0, .own' 0), (.tmp 1, .di), (.tmp 4, .clo 204 []), (.tmp 12, .di), (.tmp 13, .di)]
abbrev ANH : Am := [(.exit 4, [(.obj 0, .own 55 U5), (.tmp 0, .own' 0), (.tmp 1, .di), (.tmp 13, .di)])]
def ANA [Lk] : U6 → Option (U6 ⊕ Ud ⊕ Unit) := Qv (([] : List (Int)) : U3) A9
abbrev ANN : AE := [(.obj 0, .own 55 U5), (.tmp 0, .own' 0), (.tmp 1, .di), (.tmp 4, .clo 204 []), (.tmp 12, .di), (.tmp 13, .di)]
abbrev ANI : Am := [(.exit 2, [(.obj 0, .own 55 U5), (.tmp 0, .own' 0), (.tmp 1, .di), (.tmp 4, .clo 204 []), (.tmp 12, .di), (.tmp 13, .di)])]
def ANC [Lk] : U6 → Option V5 := Qw (([] : List (Int)) : U3) A9
abbrev ANO : AE := [(.obj 0, .own 55 U5), (.tmp 0, .own' 0), (.tmp 1, .di), (.tmp 4, .clo 204 []), (.tmp 12, .di), (.tmp 13, .di)]
abbrev ANJ : Am := [(.exit 0, [(.obj 0, .own 55 U5), (.tmp 0, .own' 0), (.tmp 1, .di), (.tmp 4, .clo 204 []), (.tmp 12, .di), (.tmp 13, .di)])]
def ANE [Lk] : U6 → Option V5 := Qx (([] : List (Int)) : U3) A9
def AUs [Lk] : U6 → Option ((List U3 × Int × Bool × Unit)) := Xw (([] : List (Int)) : U3) A9
def Aa2 [Lk] (v : U6) : Option ((List U3 × Int × Bool × Unit)) := AFh (([] : List (Int)) : U3) A9 v
theorem Aa1 v : Aa2 v = AUs v := AK _
abbrev AAo : AE := [(.tmp 0, .own 55 U5), (.tmp 1, .di), (.tmp 2, .di), (.tmp 3, .di), (.tmp 4, .clo 204 [])]
abbrev AAn : AE := [(.obj 0, .own 55 U5)]
abbrev AAm : List RS := []
abbrev AUr : AE := [(.obj 0, .own 55 U5), (.tmp 0, .own' 0), (.tmp 1, .di), (.tmp 2, .di), (.tmp 3, .di), (.tmp 4, .clo 204 []), (.tmp 10, .dat .bool), (.tmp 11, .dat .bool)]
abbrev AUq : Am := [(.ret, [(.obj 0, .own 55 U5)])]
def AUp [Lk] (self : U6 → Option (Ui)) : (List U3 × Int × Int × Int × Bool × Bool × Unit) → Option ((List U3 × Int × Int × Int × Bool × Bool × Unit) ⊕ Ui ⊕ Unit) := Qr (([] : List (Int)) : U3) A9 self
def Ae7 [Lk] (self : U6 → Option (Ui)) : U6 → Option (Ui) := AIn (([] : List (Int)) : U3) A9 self
def AAp [Lk] : Nat → U6 → Option (Ui) := Ln (([] : List (Int)) : U3) A9
def Adn [Lk] (v : U6) : Option (Ui) := Adp (([] : List (Int)) : U3) A9 v
theorem Adm v : Adn v = AAp 100 v := AK _
abbrev AHf : AE := [(.tmp 0, .own 55 U5), (.tmp 1, .clo 204 [])]
abbrev AHe : AE := [(.obj 0, .own 55 U5)]
abbrev AHd : List RS := []
def AUa [Lk] : Ui → Option (Ui) := Xo (([] : List (Int)) : U3) A9
def AL5 [Lk] (v : Ui) : Option (Ui) := AZ8 (([] : List (Int)) : U3) A9 v
theorem AZ6 v : AL5 v = AUa v := AK _
abbrev AGw : AE := [(.tmp 0, .dat U9), (.tmp 1, .dat U5), (.tmp 2, .dat Uh)]
abbrev AGv : AE := [(.tmp 0, .di), (.tmp 1, .own 55 U5)]
abbrev AGu : List RS := [.agg 2]
abbrev ALK : AE := [(.tmp 3, .box 2), (.cell 0 0, .di), (.cell 0 1, .dat Uh), (.tmp 6, .box 2), (.cell 1 0, .di), (.cell 1 1, .nil U5), (.tmp 7, .own 55 U5), (.tmp 29, .dat Uh), (.tmp 30, .di), (.tmp 31, .di)]
abbrev ALI : Am := [(.exit 2, [(.tmp 3, .box 2), (.cell 0 0, .di), (.cell 0 1, .dat Uh), (.tmp 6, .box 2), (.cell 1 0, .di), (.cell 1 1, .nil U5), (.tmp 7, .own 55 U5)])]
def Gy [Lk] : (Int × List U3 × Int × List U3 × List U3 × Int × Int × Unit) → Option ((Int × List U3 × Int × List U3 × List U3 × Int × Int × Unit) ⊕ (Int × List U3 × Int × List U3 × Unit) ⊕ Unit) := fun (a0, a1, a2, a3, a4, a5, a6, _) =>
 match (ilt a6 a5) with
 | true => match idx a4 a6 with
  | none => none
  | some x0 => match Z9 (x0, ()) with
  | none => none
  | some (y1, _) => match (fits ((AO a3) + (AO ([y1] : List U3)))) with
  | true => some (.inl (a0, a1, a2, (A8 a3 ([y1] : List U3)), a4, a5, (IntKind.wrap .i64 (a6 + 1)), ()))
  | false => none
 | false => some (.inr (.inl (a0, a1, a2, a3, ())))
abbrev ALL : AE := [(.tmp 1, .dat U5), (.tmp 2, .dat Uh), (.tmp 3, .box 2), (.cell 0 0, .di), (.cell 0 1, .dat Uh), (.tmp 6, .box 2), (.cell 1 0, .di), (.cell 1 1, .nil U5), (.tmp 7, .own 55 U5), (.tmp 13, .dat Uh), (.tmp 14, .di), (.tmp 15, .di)]
abbrev ALJ : Am := [(.exit 0, [(.tmp 2, .dat Uh), (.tmp 3, .box 2), (.cell 0 0, .di), (.cell 0 1, .dat Uh), (.tmp 6, .box 2), (.cell 1 0, .di), (.cell 1 1, .nil U5), (.tmp 7, .own 55 U5)])]
def Gz [Lk] : V6 → Option (V6 ⊕ (List U3 × Int × List U3 × Int × List U3 × Unit) ⊕ Unit) := fun (a0, a1, a2, a3, a4, a5, a6, a7, a8, _) =>
 match (ilt a8 a7) with
 | true => match idx a6 a8 with
  | none => none
  | some x0 => match FK (a0, a8, ()) with
  | none => none
  | some (y1, _) => match (!y1) with
  | true => match (fits ((AO a5) + (AO ([x0] : List U3)))) with
   | true => some (.inl (a0, a1, a2, a3, a4, (A8 a5 ([x0] : List U3)), a6, a7, (IntKind.wrap .i64 (a8 + 1)), ()))
   | false => none
  | false => some (.inl (a0, a1, a2, a3, a4, a5, a6, a7, (IntKind.wrap .i64 (a8 + 1)), ()))
 | false => some (.inr (.inl (a1, a2, a3, a4, a5, ())))
def Xg [Lk] : (Ua × List Int × List U3 × Unit) → Option ((Int × List U3 × Unit)) := fun (a0, a1, a2, _) =>
 match AR Gz many (a1, a2, a0.1, a0.2.1, 0, ([] : List U3), a0.2.1, (AO a0.2.1), 0, ()) with
 | none => none
 | some r => match r with
 | .inl (o0, o1, o2, o3, o4, _) => match AR Gy many (o1, o2, o3, o4, o0, (AO o0), 0, ()) with
  | none => none
  | some r => match r with
  | .inl (o5, o6, o7, o8, _) => match AL5 (o8, ()) with
   | none => none
   | some (y9, _) => some (o5, y9, ())
  | .inr _ => none
 | .inr _ => none
def ALN [Lk] := fun v => Lk.f (Xg v)
theorem ALM v : ALN v = Xg v := AK _
abbrev AHL : AE := [(.tmp 0, .dat U9), (.tmp 1, .di), (.tmp 2, .di)]
abbrev AHK : AE := [(.tmp 0, .di), (.tmp 1, .dat Uh), (.tmp 2, .di)]
abbrev AHJ : List RS := [.agg 2, .one]
def GR [Lk] : (Ua × Int × Int × Unit) → Option (Uz) := fun (a0, a1, a2, _) =>
 match asked ((a0.1, (a0.2.1, ())), a1, a2, ()) with
 | none => none
 | some (y0, _) => match (!(ieq y0 0)) with
 | true => some (a0.1, a0.2.1, y0, ())
 | false => match Oa ((a0.1, (a0.2.1, ())), a1, ()) with
 | none => none
 | some (y1, _) => match Oa ((a0.1, (a0.2.1, ())), a2, ()) with
 | none => none
 | some (y2, _) => match (ieq y1 y2) with
 | true => some (a0.1, a0.2.1, 5, ())
 | false => match idx a0.2.1 y1 with
 | none => none
 | some x3 => match AFY (x3, a1, ()) with
 | none => none
 | some (y4, y5, _) => match idx a0.2.1 y2 with
 | none => none
 | some x6 => match AFY (x6, a2, ()) with
 | none => none
 | some (y7, y8, _) => match DY y4 0 1 with
 | none => none
 | some x9 => match AWP (a0.1, a1, a2, ()) with
 | none => none
 | some (y10, _) => match AWP (a0.1, a2, a1, ()) with
 | none => none
 | some (y11, _) => match DY y4 1 (AO y4) with
 | none => none
 | some x12 => match IK (([(DS 0 (AM (AO x9)) y4), ([y10] : List (Int)), y7, ([y11] : List (Int)), (DS 1 (AM (AO x12)) y4)] : List U3), ()) with
 | none => none
 | some (y13, _) => match ALN ((a0.1, (a0.2.1, ())), ([y1, y2] : List (Int)), ([y13] : List U3), ()) with
 | none => none
 | some (y14, y15, _) => some (y14, y15, 0, ())
def Ku [Lk] := fun v => Lk.f (GR v)
theorem G5 v : Ku v = GR v := AK _
abbrev FF : AE := [(.tmp 0, .dat U5), (.cap 1 0, .box 2), (.cell 0 0, .di), (.cell 0 1, .dat Uh), (.tmp 1, .clo 155 [(0, 0)])]
abbrev FE : AE := [(.obj 0, .box 2), (.cell 0 0, .di), (.cell 0 1, .dat Uh), (.tmp 0, .di)]
abbrev FD : List RS := [.one]
abbrev IB : AE := [(.obj 0, .box 2), (.cell 0 0, .di), (.cell 0 1, .dat Uh), (.tmp 0, .dat U5), (.tmp 1, .clo 155 [(0, 0)]), (.tmp 7, .di), (.tmp 8, .di)]
abbrev IA : Am := [(.ret, [(.obj 0, .box 2), (.cell 0 0, .di), (.cell 0 1, .dat Uh), (.tmp 4, .di)]), (.exit 0, [(.obj 0, .box 2), (.cell 0 0, .di), (.cell 0 1, .dat Uh)])]
def BY [Lk] : (Int × List U3 × List Int × Int × Int × Unit) → Option ((Int × List U3 × List Int × Int × Int × Unit) ⊕ Uz ⊕ (Int × List U3 × Unit) ⊕ Unit) := fun (a0, a1, a2, a3, a4, _) =>
 match (ilt a4 a3) with
 | true => match idx a2 a4 with
  | none => none
  | some x0 => match (ilt x0 0) with
  | true => some (.inr (.inl (a0, a1, a4, ())))
  | false => match (ile a0 x0) with
  | true => some (.inr (.inl (a0, a1, a4, ())))
  | false => some (.inl (a0, a1, a2, a3, (IntKind.wrap .i64 (a4 + 1)), ()))
 | false => some (.inr (.inr (.inl (a0, a1, ()))))
def DR [Lk] : (List Int × Int × List U3 × Unit) → Option (Uz) := fun (a0, a1, a2, _) =>
 match AR BY many (a1, a2, a0, (AO a0), 0, ()) with
 | none => none
 | some r => match r with
 | .inl (o0, o1, o2, _) => some (o0, o1, o2, ())
 | .inr r => match r with
 | .inl (o3, o4, _) => some (o3, o4, (-1 : Int), ())
 | .inr _ => none
def EX [Lk] := fun v => Lk.f (DR v)
theorem IC v : EX v = DR v := AK _
abbrev Ed : AE := [(.tmp 0, .dat U5), (.cap 1 0, .box 2), (.cell 0 0, .di), (.cell 0 1, .dat Uh), (.tmp 1, .clo 155 [(0, 0)])]
abbrev Ec : AE := [(.obj 0, .box 2), (.cell 0 0, .di), (.cell 0 1, .dat Uh), (.tmp 0, .dat .bool)]
abbrev Eb : List RS := [.one]
def Cq [Lk] : (List Int × Int × List U3 × Unit) → Option ((Int × List U3 × Bool × Unit)) := fun (a0, a1, a2, _) =>
 match EX (a0, a1, a2, ()) with
 | none => none
 | some (y0, y1, y2, _) => some (y0, y1, (ile 0 y2), ())
def Cc [Lk] := fun v => Lk.f (Cq v)
theorem Hf v : Cc v = Cq v := AK _
abbrev ACC : AE := [(.tmp 0, .dat U9), (.tmp 1, .dat U5)]
abbrev ACB : AE := [(.tmp 0, .di)]
abbrev ACA : List RS := [.one]
def RT [Lk] : (Ua × List Int × Unit) → Option (U8) := fun (a0, a1, _) =>
 match OZ ((a0.1, (a0.2.1, ())), ()) with
 | none => none
 | some (y0, _) => match (!y0) with
 | true => some (1, ())
 | false => match Cc (a1, a0.1, a0.2.1, ()) with
 | none => none
 | some (y1, y2, y3, _) => match y3 with
 | true => some (10, ())
 | false => some (0, ())
def Il [Lk] := fun v => Lk.f (RT v)
theorem AGA v : Il v = RT v := AK _
abbrev ATH : AE := [(.tmp 0, .dat Us)]
abbrev ATG : AE := [(.tmp 0, .own 3 U2)]
abbrev ATF : List RS := [.one]
abbrev AVc : AE := [(.tmp 3, .own 3 U2), (.tmp 6, .dat Us), (.tmp 7, .di), (.tmp 8, .di)]
abbrev AVb : Am := [(.exit 0, [(.tmp 3, .own 3 U2)])]
def KN [Lk] : (List Int × List U4 × Int × Int × Unit) → Option ((List Int × List U4 × Int × Int × Unit) ⊕ Ul ⊕ Unit) := fun (a0, a1, a2, a3, _) =>
 match (ilt a3 a2) with
 | true => match idx a1 a3 with
  | none => none
  | some x0 => match (fits ((AO a0) + (AO ([x0.1, x0.2.1] : List (Int))))) with
  | true => some (.inl ((A8 a0 ([x0.1, x0.2.1] : List (Int))), a1, a2, (IntKind.wrap .i64 (a3 + 1)), ()))
  | false => none
 | false => some (.inr (.inl (a0, ())))
def AJ0 [Lk] : V0 → Option (Ul) := fun (a0, _) =>
 match AR KN many (([] : List (Int)), a0, (AO a0), 0, ()) with
 | none => none
 | some r => match r with
 | .inl (o0, _) => some (o0, ())
 | .inr _ => none
def ends [Lk] := fun v => Lk.f (AJ0 v)
theorem AVd v : ends v = AJ0 v := AK _
abbrev Pd : AE := [(.tmp 0, .dat U9), (.tmp 1, .dat Us), (.tmp 2, .clo 161 [])]
abbrev Pc : AE := [(.tmp 0, .dat U9), (.tmp 1, .own 4 .bool), (.tmp 2, .di)]
abbrev Pa : List RS := [.one, .one, .one]
abbrev Wi : AE := [(.tmp 2, .clo 161 []), (.tmp 3, .box 2), (.cell 0 0, .di), (.cell 0 1, .dat Uh), (.tmp 6, .box 2), (.cell 1 0, .di), (.cell 1 1, .nil U5), (.tmp 10, .own 4 .bool), (.tmp 23, .dat Us), (.tmp 24, .di), (.tmp 25, .di)]
abbrev Wh : Am := [(.exit 0, [(.tmp 3, .box 2), (.cell 0 0, .di), (.cell 0 1, .dat Uh), (.tmp 6, .box 2), (.cell 1 0, .di), (.cell 1 1, .nil U5), (.tmp 10, .own 4 .bool)])]
def DC [Lk] : (Int × List U3 × Int × List Bool × List U4 × Int × Int × Unit) → Option ((Int × List U3 × Int × List Bool × List U4 × Int × Int × Unit) ⊕ (Int × List U3 × Int × List Bool × Unit) ⊕ Unit) := fun (a0, a1, a2, a3, a4, a5, a6, _) =>
 match (ilt a6 a5) with
 | true => match idx a4 a6 with
  | none => none
  | some x0 => match Ku ((a0, (a1, ())), x0.1, x0.2.1, ()) with
  | none => none
  | some (y1, y2, y3, _) => match (fits ((AO a3) + (AO ([(ieq y3 0)] : List (Bool))))) with
  | true => some (.inl (y1, y2, a2, (A8 a3 ([(ieq y3 0)] : List (Bool))), a4, a5, (IntKind.wrap .i64 (a6 + 1)), ()))
  | false => none
 | false => some (.inr (.inl (a0, a1, a2, a3, ())))
def KP [Lk] : V9 → Option ((Ua × List Bool × Int × Unit)) := fun (a0, a1, _) =>
 match ends (a1, ()) with
 | none => none
 | some (y0, _) => match Il ((a0.1, (a0.2.1, ())), y0, ()) with
 | none => none
 | some (y1, _) => match (!(ieq y1 0)) with
 | true => some ((a0.1, (a0.2.1, ())), ([] : List (Bool)), y1, ())
 | false => match AR DC many (a0.1, a0.2.1, 0, ([] : List (Bool)), a1, (AO a1), 0, ()) with
 | none => none
 | some r => match r with
 | .inl (o2, o3, o4, o5, _) => some ((o2, (o3, ())), o5, 0, ())
 | .inr _ => none
def Rc [Lk] := fun v => Lk.f (KP v)
theorem Wj v : Rc v = KP v := AK _
abbrev ACI : AE := [(.tmp 0, .dat U9), (.tmp 1, .dat Us)]
abbrev ACH : AE := [(.tmp 0, .dat U9), (.tmp 1, .own 4 .bool), (.tmp 2, .di)]
abbrev ACG : List RS := [.one, .one, .one]
def RV [Lk] : V9 → Option ((Ua × List Bool × Int × Unit)) := fun (a0, a1, _) =>
 match Rc ((a0.1, (a0.2.1, ())), a1, ()) with
 | none => none
 | some (y0, y1, y2, _) => some ((y0.1, (y0.2.1, ())), y1, y2, ())
def AJs [Lk] := fun v => Lk.f (RV v)
theorem AGG v : AJs v = RV v := AK _
abbrev AcG : AE := [(.tmp 0, .di), (.tmp 1, .dat Us)]
abbrev AcF : AE := [(.tmp 0, .dat U9), (.tmp 1, .di)]
abbrev AcE : List RS := [.one, .one]
def AVa [Lk] : V1 → Option (V8) := fun (a0, a1, _) =>
 match ALg (a0, ()) with
 | none => none
 | some (y0, y1, y2, _) => match (!(ieq y2 0)) with
 | true => some ((0, (([] : List U3), ())), y2, ())
 | false => match AJs ((y0, (y1, ())), a1, ()) with
 | none => none
 | some (y3, y4, y5, _) => match (!(ieq y5 0)) with
 | true => some ((0, (([] : List U3), ())), y5, ())
 | false => some ((y3.1, (y3.2.1, ())), 0, ())
def fof [Lk] := fun v => Lk.f (AVa v)
theorem AcH v : fof v = AVa v := AK _
abbrev AbC : AE := [(.tmp 0, .dat U5)]
abbrev AbA : AE := [(.tmp 0, .di)]
abbrev Aa8 : List RS := [.one]
abbrev AbB : AE := [(.tmp 3, .di), (.tmp 6, .dat U5), (.tmp 7, .di), (.tmp 8, .di)]
abbrev Aa9 : Am := [(.ret, [(.tmp 2, .di)]), (.exit 0, [(.tmp 3, .di)])]
def O8 [Lk] : (Int × List Int × Int × Int × Unit) → Option ((Int × List Int × Int × Int × Unit) ⊕ U8 ⊕ U8 ⊕ Unit) := fun (a0, a1, a2, a3, _) =>
 match (ilt a3 a2) with
 | true => match idx a1 a3 with
  | none => none
  | some x0 => match (!(ieq x0 a0)) with
  | true => some (.inr (.inl (x0, ())))
  | false => some (.inl (a0, a1, a2, (IntKind.wrap .i64 (a3 + 1)), ()))
 | false => some (.inr (.inr (.inl (a0, ()))))
def AUt [Lk] : Ul → Option (U8) := fun (a0, _) =>
 match AR O8 many (0, a0, (AO a0), 0, ()) with
 | none => none
 | some r => match r with
 | .inl (o0, _) => some (o0, ())
 | .inr r => match r with
 | .inl (o1, _) => some (o1, ())
 | .inr _ => none
def orI [Lk] := fun v => Lk.f (AUt v)
theorem AbE v : orI v = AUt v := AK _
abbrev ABP : AE := [(.tmp 0, .di)]
abbrev ABO : AE := [(.tmp 0, .dat .bool)]
abbrev ABN : List RS := [.one]
def JB [Lk] : U8 → Option (Uf) := fun (a0, _) =>
 match (ile 1 a0) with
 | true => some ((ile a0 64), ())
 | false => some (false, ())
def PD [Lk] := fun v => Lk.f (JB v)
theorem NW v : PD v = JB v := AK _
abbrev ASN : AE := [(.tmp 0, .di)]
abbrev ASM : AE := [(.tmp 0, .di)]
abbrev ASL : List RS := [.one]
def AJC [Lk] : U8 → Option (U8) := fun (a0, _) =>
 match PD (a0, ()) with
 | none => none
 | some (y0, _) => match (!y0) with
 | true => some (0, ())
 | false => match bitsLen ((IntKind.wrap .u64 (IntKind.wrap .i64 (a0 - 1))), ()) with
 | none => none
 | some (y1, _) => some (y1, ())
def ABM [Lk] := fun v => Lk.f (AJC v)
theorem AU7 v : ABM v = AJC v := AK _
abbrev PK : AE := [(.tmp 0, .dat U0), (.tmp 1, .dat U0)]
abbrev PJ : AE := [(.tmp 0, .di)]
abbrev PI : List RS := [.one]
def KJ [Lk] : (U1 × U1 × Unit) → Option (U8) := fun (a0, a1, _) =>
 match F5 (a0.1, a1.1, ()) with
 | none => none
 | some (y0, _) => match F5 (a0.2.1, a1.2.1, ()) with
 | none => none
 | some (y1, _) => match orI (([y0, y1] : List (Int)), ()) with
 | none => none
 | some (y2, _) => some (y2, ())
def JF [Lk] := fun v => Lk.f (KJ v)
theorem Wb v : JF v = KJ v := AK _
abbrev ABK : AE := [(.tmp 0, .dat Ub), (.tmp 1, .di)]
abbrev ABJ : AE := [(.tmp 0, .own 42 U7)]
abbrev ABI : List RS := [.one]
abbrev AFs : AE := [(.tmp 1, .di), (.tmp 5, .own 42 U7), (.tmp 9, .dat Uo), (.tmp 10, .di), (.tmp 11, .di)]
abbrev AFr : Am := [(.exit 0, [(.tmp 5, .own 42 U7)])]
def CD [Lk] : (Int × List U4 × List U1 × Int × Int × Unit) → Option ((Int × List U4 × List U1 × Int × Int × Unit) ⊕ V0 ⊕ Unit) := fun (a0, a1, a2, a3, a4, _) =>
 match (ilt a4 a3) with
 | true => match idx a2 a4 with
  | none => none
  | some x0 => match x0.2.2.2.1 with
  | true => match (ile a0 x0.2.2.1) with
   | true => match (fits ((AO a1) + (AO ([(x0.1, (x0.2.1, ()))] : List U4)))) with
    | true => some (.inl (a0, (A8 a1 ([(x0.1, (x0.2.1, ()))] : List U4)), a2, a3, (IntKind.wrap .i64 (a4 + 1)), ()))
    | false => none
   | false => some (.inl (a0, a1, a2, a3, (IntKind.wrap .i64 (a4 + 1)), ()))
  | false => some (.inl (a0, a1, a2, a3, (IntKind.wrap .i64 (a4 + 1)), ()))
 | false => some (.inr (.inl (a1, ())))
def Lr [Lk] : (Ue × Int × Unit) → Option (V0) := fun (a0, a1, _) =>
 match AR CD many (a1, ([] : List U4), a0.2.1, (AO a0.2.1), 0, ()) with
 | none => none
 | some r => match r with
 | .inl (o0, _) => some (o0, ())
 | .inr _ => none
def PC [Lk] := fun v => Lk.f (Lr v)
theorem T5 v : PC v = Lr v := AK _
abbrev ABS : AE := [(.tmp 0, .dat Ub)]
abbrev ABR : AE := [(.tmp 0, .dat .bool)]
abbrev ABQ : List RS := [.one]
abbrev AFu : AE := [(.tmp 1, .box 2), (.cell 0 0, .di), (.cell 0 1, .dat Uo), (.tmp 3, .di), (.tmp 23, .dat Uo), (.tmp 24, .di), (.tmp 25, .di)]
abbrev AFt : Am := [(.ret, [(.tmp 2, .dat .bool)]), (.exit 0, [(.tmp 1, .box 2), (.cell 0 0, .di), (.cell 0 1, .dat Uo)])]
def DO [Lk] : (Int × List U1 × Int × List U1 × Int × Int × Unit) → Option ((Int × List U1 × Int × List U1 × Int × Int × Unit) ⊕ Uf ⊕ (Int × List U1 × Unit) ⊕ Unit) := fun (a0, a1, a2, a3, a4, a5, _) =>
 match (ilt a5 a4) with
 | true => match idx a3 a5 with
  | none => none
  | some x0 => match (ilt x0.1 0) with
  | true => some (.inr (.inl (false, ())))
  | false => match (ile x0.2.1 x0.1) with
  | true => some (.inr (.inl (false, ())))
  | false => match (ile a0 x0.2.1) with
  | true => some (.inr (.inl (false, ())))
  | false => match (ilt x0.2.2.1 0) with
  | true => some (.inr (.inl (false, ())))
  | false => match (ilt a2 x0.2.2.1) with
  | true => some (.inr (.inl (false, ())))
  | false => match (ilt 0 a5) with
  | true => match idx a1 (IntKind.wrap .i64 (a5 - 1)) with
   | none => none
   | some x1 => match JF ((x1.1, (x1.2.1, (x1.2.2.1, (x1.2.2.2.1, ())))), (x0.1, (x0.2.1, (x0.2.2.1, (x0.2.2.2.1, ())))), ()) with
   | none => none
   | some (y2, _) => match (ile 0 y2) with
   | true => some (.inr (.inl (false, ())))
   | false => some (.inl (a0, a1, a2, a3, a4, (IntKind.wrap .i64 (a5 + 1)), ()))
  | false => some (.inl (a0, a1, a2, a3, a4, (IntKind.wrap .i64 (a5 + 1)), ()))
 | false => some (.inr (.inr (.inl (a0, a1, ()))))
def HP [Lk] : Uw → Option (Uf) := fun (a0, _) =>
 match PD (a0.1, ()) with
 | none => none
 | some (y0, _) => match (!y0) with
 | true => some (false, ())
 | false => match (ilt 400 (AO a0.2.1)) with
 | true => some (false, ())
 | false => match ABM (a0.1, ()) with
 | none => none
 | some (y1, _) => match AR DO many (a0.1, a0.2.1, y1, a0.2.1, (AO a0.2.1), 0, ()) with
 | none => none
 | some r => match r with
 | .inl (o2, _) => some (o2, ())
 | .inr r => match r with
 | .inl (o3, o4, _) => match PC ((o3, (o4, ())), 0, ()) with
  | none => none
  | some (y5, _) => match fof (o3, y5, ()) with
  | none => none
  | some (y6, y7, _) => match (ieq y7 0) with
  | true => some ((ieq (AO y6.2.1) (IntKind.wrap .i64 (o3 - (AO y5)))), ())
  | false => some (false, ())
 | .inr _ => none
def CE [Lk] := fun v => Lk.f (HP v)
theorem JC v : CE v = HP v := AK _
abbrev ABh : AE := [(.tmp 0, .dat Ub)]
abbrev ABg : AE := [(.tmp 0, .own 42 U7)]
abbrev ABf : List RS := [.one]
abbrev AFw : AE := [(.tmp 3, .own 42 U7), (.tmp 10, .dat Uo), (.tmp 11, .di), (.tmp 12, .di)]
abbrev AFv : Am := [(.exit 0, [(.tmp 3, .own 42 U7)])]
def E3 [Lk] : (List U4 × List U1 × Int × Int × Unit) → Option ((List U4 × List U1 × Int × Int × Unit) ⊕ V0 ⊕ Unit) := fun (a0, a1, a2, a3, _) =>
 match (ilt a3 a2) with
 | true => match idx a1 a3 with
  | none => none
  | some x0 => match (fits ((AO a0) + (AO ([(x0.1, (x0.2.1, ()))] : List U4)))) with
  | true => some (.inl ((A8 a0 ([(x0.1, (x0.2.1, ()))] : List U4)), a1, a2, (IntKind.wrap .i64 (a3 + 1)), ()))
  | false => none
 | false => some (.inr (.inl (a0, ())))
def Q6 [Lk] : Uw → Option (V0) := fun (a0, _) =>
 match CE ((a0.1, (a0.2.1, ())), ()) with
 | none => none
 | some (y0, _) => match (!y0) with
 | true => some (([] : List U4), ())
 | false => match AR E3 many (([] : List U4), a0.2.1, (AO a0.2.1), 0, ()) with
 | none => none
 | some r => match r with
 | .inl (o1, _) => some (o1, ())
 | .inr _ => none
def ABj [Lk] := fun v => Lk.f (Q6 v)
theorem AFx v : ABj v = Q6 v := AK _
abbrev Zq : AE := [(.tmp 0, .di), (.tmp 1, .dat Us)]
abbrev Zp : AE := [(.tmp 0, .di)]
abbrev Zo : List RS := [.one]
abbrev AFN : AE := [(.tmp 0, .di), (.tmp 13, .dat Us), (.tmp 14, .di), (.tmp 15, .di)]
abbrev AFM : Am := [(.ret, [(.tmp 4, .di)]), (.exit 0, [])]
def Es [Lk] : (Int × List U4 × Int × Int × Unit) → Option ((Int × List U4 × Int × Int × Unit) ⊕ U8 ⊕ (Unit) ⊕ Unit) := fun (a0, a1, a2, a3, _) =>
 match (ilt a3 a2) with
 | true => match idx a1 a3 with
  | none => none
  | some x0 => match (ilt (Cb x0.1 x0.2.1) 0) with
  | true => some (.inr (.inl (10, ())))
  | false => match (ile a0 (imax x0.1 x0.2.1)) with
  | true => some (.inr (.inl (10, ())))
  | false => some (.inl (a0, a1, a2, (IntKind.wrap .i64 (a3 + 1)), ()))
 | false => some (.inr (.inr (.inl ())))
def Qe [Lk] : V1 → Option (U8) := fun (a0, a1, _) =>
 match (ilt a0 1) with
 | true => some (1, ())
 | false => match (ilt 64 a0) with
 | true => some (1, ())
 | false => match AR Es many (a0, a1, (AO a1), 0, ()) with
 | none => none
 | some r => match r with
 | .inl (o0, _) => some (o0, ())
 | .inr r => match r with
 | .inl _ => some (0, ())
 | .inr _ => none
def TJ [Lk] := fun v => Lk.f (Qe v)
theorem AFO v : TJ v = Qe v := AK _
abbrev Z0 : AE := [(.tmp 0, .di)]
abbrev Zz : AE := [(.tmp 0, .own 3 U2)]
abbrev Zy : List RS := [.one]
abbrev AFT : AE := [(.tmp 3, .own 3 U2), (.tmp 8, .di), (.tmp 9, .di)]
abbrev AFS : Am := [(.exit 0, [(.tmp 3, .own 3 U2)])]
def Eu [Lk] : Uj → Option (Uj ⊕ Ul ⊕ Unit) := fun (a0, a1, a2, _) =>
 match (ilt a2 a1) with
 | true => match idx a0 a2 with
  | none => none
  | some x0 => some (.inl ((An a0 (AM a2) a2), a1, (IntKind.wrap .i64 (a2 + 1)), ()))
 | false => some (.inr (.inl (a0, ())))
def Qg [Lk] : U8 → Option (Ul) := fun (a0, _) =>
 match (JL a0 && JL a0 && ile a0 a0 && true) with
 | true => match AR Eu many ((JO (AM a0) (0 : Int)), (AO (JO (AM a0) (0 : Int))), (0 : Int), ()) with
  | none => none
  | some r => match r with
  | .inl (o0, _) => some (o0, ())
  | .inr _ => none
 | false => none
def TL [Lk] := fun v => Lk.f (Qg v)
theorem AFU v : TL v = Qg v := AK _
abbrev ZX : AE := [(.tmp 0, .own 3 U2), (.tmp 1, .di)]
abbrev ZW : AE := [(.obj 0, .own 3 U2), (.tmp 0, .di)]
abbrev ZV : List RS := [.one]
abbrev AFC : AE := [(.obj 0, .own 3 U2), (.tmp 0, .own' 0), (.tmp 1, .di)]
abbrev AFB : Am := [(.exit 0, [(.obj 0, .own 3 U2), (.tmp 1, .di)])]
def I4 [Lk] : Um → Option (Um ⊕ Um ⊕ Unit) := fun (a0, a1, _) =>
 match idx a0 a1 with
 | none => none
 | some x0 => match (!(ieq (AW a0 (AM a1) 0) a1)) with
 | true => match idx a0 a1 with
  | none => none
  | some x1 => match idx a0 (AW a0 (AM a1) 0) with
  | none => none
  | some x2 => match idx a0 a1 with
  | none => none
  | some x3 => match idx (An a0 (AM a1) (AW a0 (AM (AW a0 (AM a1) 0)) 0)) a1 with
  | none => none
  | some x4 => some (.inl ((An a0 (AM a1) (AW a0 (AM (AW a0 (AM a1) 0)) 0)), (AW (An a0 (AM a1) (AW a0 (AM (AW a0 (AM a1) 0)) 0)) (AM a1) 0), ()))
 | false => some (.inr (.inl (a0, a1, ())))
def QY [Lk] : Um → Option (Um) := fun (a0, a1, _) =>
 match AR I4 many (a0, a1, ()) with
 | none => none
 | some r => match r with
 | .inl (o0, o1, _) => some (o0, o1, ())
 | .inr _ => none
def Ou [Lk] := fun v => Lk.f (QY v)
theorem AFD v : Ou v = QY v := AK _
abbrev AH3 : AE := [(.tmp 0, .own 3 U2), (.tmp 1, .di), (.tmp 2, .di)]
abbrev AH2 : AE := [(.obj 0, .own 3 U2), (.tmp 0, .dat .bool)]
abbrev AH1 : List RS := [.one]
def QZ [Lk] : Uj → Option ((List Int × Bool × Unit)) := fun (a0, a1, a2, _) =>
 match Ou (a0, a1, ()) with
 | none => none
 | some (y0, y1, _) => match Ou (y0, a2, ()) with
 | none => none
 | some (y2, y3, _) => match idx y2 (imax y1 y3) with
 | none => none
 | some x4 => some ((An y2 (AM (imax y1 y3)) (Cb y1 y3)), (!(ieq y1 y3)), ())
def AFF [Lk] := fun v => Lk.f (QZ v)
theorem Zc v : AFF v = QZ v := AK _
abbrev Ph : AE := [(.tmp 0, .dat Us), (.cap 1 0, .own 3 U2), (.tmp 1, .bnd 151 0)]
abbrev Pg : AE := [(.obj 0, .own 3 U2), (.tmp 0, .own 4 .bool)]
abbrev Pf : List RS := [.one]
abbrev Wl : AE := [(.obj 0, .own 3 U2), (.tmp 1, .bnd 151 0), (.tmp 5, .own 4 .bool), (.tmp 8, .dat Us), (.tmp 9, .di), (.tmp 10, .di)]
abbrev Wk : Am := [(.exit 0, [(.obj 0, .own 3 U2), (.tmp 5, .own 4 .bool)])]
def Be [Lk] : (List Int × List Bool × List U4 × Int × Int × Unit) → Option ((List Int × List Bool × List U4 × Int × Int × Unit) ⊕ (List Int × List Bool × Unit) ⊕ Unit) := fun (a0, a1, a2, a3, a4, _) =>
 match (ilt a4 a3) with
 | true => match idx a2 a4 with
  | none => none
  | some x0 => match AFF (a0, x0.1, x0.2.1, ()) with
  | none => none
  | some (y1, y2, _) => match (fits ((AO a1) + (AO ([y2] : List (Bool))))) with
  | true => some (.inl (y1, (A8 a1 ([y2] : List (Bool))), a2, a3, (IntKind.wrap .i64 (a4 + 1)), ()))
  | false => none
 | false => some (.inr (.inl (a0, a1, ())))
def Hb [Lk] : (List U4 × List Int × Unit) → Option ((List Int × List Bool × Unit)) := fun (a0, a1, _) =>
 match AR Be many (a1, ([] : List (Bool)), a0, (AO a0), 0, ()) with
 | none => none
 | some r => match r with
 | .inl (o0, o1, _) => some (o0, o1, ())
 | .inr _ => none
def JN [Lk] := fun v => Lk.f (Hb v)
theorem MH v : JN v = Hb v := AK _
abbrev Zb : AE := [(.tmp 0, .own 3 U2), (.tmp 1, .dat Us)]
abbrev Za : AE := [(.obj 0, .own 3 U2), (.tmp 0, .own 4 .bool)]
abbrev ZZ : List RS := [.one]
def La [Lk] : (List Int × List U4 × Unit) → Option ((List Int × List Bool × Unit)) := fun (a0, a1, _) =>
 match JN (a1, a0, ()) with
 | none => none
 | some (y0, y1, _) => some (y0, y1, ())
def TG [Lk] := fun v => Lk.f (La v)
theorem TF v : TG v = La v := AK _
abbrev Oy : AE := [(.tmp 0, .di), (.tmp 1, .dat Us)]
abbrev Ox : AE := [(.tmp 0, .own 3 U2), (.tmp 1, .di)]
abbrev Ow : List RS := [.one, .one]
abbrev Vy : AE := [(.tmp 7, .own 3 U2), (.tmp 21, .di), (.tmp 22, .di)]
abbrev Vx : Am := [(.exit 0, [(.tmp 7, .own 3 U2)])]
def Cx [Lk] : Uj → Option (Uj ⊕ Ul ⊕ Unit) := fun (a0, a1, a2, _) =>
 match (ilt a2 a1) with
 | true => match Ou (a0, a2, ()) with
  | none => none
  | some (y0, y1, _) => match idx y0 a2 with
  | none => none
  | some x2 => some (.inl ((An y0 (AM a2) y1), a1, (IntKind.wrap .i64 (a2 + 1)), ()))
 | false => some (.inr (.inl (a0, ())))
def J2 [Lk] : V1 → Option (Um) := fun (a0, a1, _) =>
 match TJ (a0, a1, ()) with
 | none => none
 | some (y0, _) => match (!(ieq y0 0)) with
 | true => some (([] : List (Int)), y0, ())
 | false => match TL (a0, ()) with
 | none => none
 | some (y1, _) => match TG (y1, a1, ()) with
 | none => none
 | some (y2, y3, _) => match AR Cx many (y2, (AO y2), 0, ()) with
 | none => none
 | some r => match r with
 | .inl (o4, _) => some (o4, 0, ())
 | .inr _ => none
def Le [Lk] := fun v => Lk.f (J2 v)
theorem Vz v : Le v = J2 v := AK _
abbrev MR : AE := [(.tmp 0, .di), (.tmp 1, .dat Us)]
abbrev MQ : AE := [(.tmp 0, .own 3 U2)]
abbrev MP : List RS := [.one]
abbrev Rm : AE := [(.tmp 0, .di), (.tmp 1, .dat Us), (.tmp 5, .own 3 U2), (.tmp 7, .dat .bool), (.tmp 8, .di)]
abbrev Rj : Am := [(.exit 4, [(.tmp 0, .di), (.tmp 1, .dat Us), (.tmp 5, .own 3 U2), (.tmp 7, .dat .bool)])]
def CX [Lk] : (Int × List U4 × List Int × Bool × Int × Unit) → Option ((Int × List U4 × List Int × Bool × Int × Unit) ⊕ Va ⊕ Unit) := fun (a0, a1, a2, a3, a4, _) =>
 match (ilt a4 (AO a1)) with
 | true => match idx a1 a4 with
  | none => none
  | some x0 => match idx a1 a4 with
  | none => none
  | some x1 => match (ilt x0.1 0) with
  | true => some (.inl (a0, a1, a2, a3, (IntKind.wrap .i64 (a4 + 1)), ()))
  | false => match (ilt x1.2.1 0) with
  | true => some (.inl (a0, a1, a2, a3, (IntKind.wrap .i64 (a4 + 1)), ()))
  | false => match (ile a0 x0.1) with
  | true => some (.inl (a0, a1, a2, a3, (IntKind.wrap .i64 (a4 + 1)), ()))
  | false => match (ile a0 x1.2.1) with
  | true => some (.inl (a0, a1, a2, a3, (IntKind.wrap .i64 (a4 + 1)), ()))
  | false => match idx a2 x0.1 with
  | none => none
  | some x2 => match idx a2 x1.2.1 with
  | none => none
  | some x3 => match (ieq (AW a2 (AM x0.1) 0) (AW a2 (AM x1.2.1) 0)) with
  | true => some (.inl (a0, a1, a2, a3, (IntKind.wrap .i64 (a4 + 1)), ()))
  | false => match idx a2 x0.1 with
  | none => none
  | some x4 => match idx a2 x1.2.1 with
  | none => none
  | some x5 => match idx a2 x0.1 with
  | none => none
  | some x6 => match idx (An a2 (AM x0.1) (Cb (AW a2 (AM x0.1) 0) (AW a2 (AM x1.2.1) 0))) x1.2.1 with
  | none => none
  | some x7 => some (.inl (a0, a1, (An (An a2 (AM x0.1) (Cb (AW a2 (AM x0.1) 0) (AW a2 (AM x1.2.1) 0))) (AM x1.2.1) (Cb (AW a2 (AM x0.1) 0) (AW a2 (AM x1.2.1) 0))), true, (IntKind.wrap .i64 (a4 + 1)), ()))
 | false => some (.inr (.inl (a0, a1, a2, a3, ())))
abbrev Rn : AE := [(.tmp 0, .di), (.tmp 1, .dat Us), (.tmp 5, .own 3 U2), (.tmp 7, .dat .bool)]
abbrev Rk : Am := [(.exit 2, [(.tmp 5, .own 3 U2)])]
def DT [Lk] : Va → Option (Va ⊕ Ul ⊕ Unit) := fun (a0, a1, a2, a3, _) =>
 match a3 with
 | true => match AR CX many (a0, a1, a2, false, 0, ()) with
  | none => none
  | some r => match r with
  | .inl (o0, o1, o2, o3, _) => some (.inl (o0, o1, o2, o3, ()))
  | .inr _ => none
 | false => some (.inr (.inl (a2, ())))
abbrev Ro : AE := [(.tmp 0, .di), (.tmp 1, .dat Us), (.tmp 5, .own 3 U2), (.tmp 6, .di)]
abbrev Rl : Am := [(.exit 0, [(.tmp 0, .di), (.tmp 1, .dat Us), (.tmp 5, .own 3 U2)])]
def CY [Lk] : (Int × List U4 × List Int × Int × Unit) → Option ((Int × List U4 × List Int × Int × Unit) ⊕ (Int × List U4 × List Int × Unit) ⊕ Unit) := fun (a0, a1, a2, a3, _) =>
 match (ilt a3 a0) with
 | true => match (fits ((AO a2) + (AO ([a3] : List (Int))))) with
  | true => some (.inl (a0, a1, (A8 a2 ([a3] : List (Int))), (IntKind.wrap .i64 (a3 + 1)), ()))
  | false => none
 | false => some (.inr (.inl (a0, a1, a2, ())))
def IL [Lk] : V1 → Option (Ul) := fun (a0, a1, _) =>
 match AR CY many (a0, a1, ([] : List (Int)), 0, ()) with
 | none => none
 | some r => match r with
 | .inl (o0, o1, o2, _) => match AR DT many (o0, o1, o2, true, ()) with
  | none => none
  | some r => match r with
  | .inl (o3, _) => some (o3, ())
  | .inr _ => none
 | .inr _ => none
def Cl [Lk] := fun v => Lk.f (IL v)
theorem Rp v : Cl v = IL v := AK _
abbrev AHA : AE := [(.tmp 0, .di)]
abbrev AG9 : AE := [(.tmp 0, .di)]
abbrev AG8 : List RS := [.one]
abbrev ALa : AE := [(.tmp 3, .di), (.tmp 4, .di)]
abbrev ALZ : Am := [(.exit 0, [(.tmp 3, .di)])]
def Yl [Lk] : U4 → Option (U4 ⊕ U8 ⊕ Unit) := fun (a0, a1, _) =>
 match (ilt 0 a1) with
 | true => match quo? .i64 a1 2 with
  | none => none
  | some x0 => some (.inl ((IntKind.wrap .i64 (a0 + 1)), x0, ()))
 | false => some (.inr (.inl (a0, ())))
def AHC [Lk] : U8 → Option (U8) := fun (a0, _) =>
 match (ilt a0 1) with
 | true => some (0, ())
 | false => match (ilt 64 a0) with
 | true => some (0, ())
 | false => match AR Yl many (0, (IntKind.wrap .i64 (a0 - 1)), ()) with
 | none => none
 | some r => match r with
 | .inl (o0, _) => some (o0, ())
 | .inr _ => none
def Kt [Lk] := fun v => Lk.f (AHC v)
theorem AZa v : Kt v = AHC v := AK _
abbrev TO : AE := [(.tmp 0, .dat Ub)]
abbrev TN : AE := [(.tmp 0, .dat .bool)]
abbrev TM : List RS := [.one]
abbrev AAF : AE := [(.tmp 1, .box 2), (.cell 0 0, .di), (.cell 0 1, .dat Uo), (.tmp 3, .own 42 U7), (.tmp 6, .own 3 U2), (.tmp 7, .di), (.tmp 8, .di)]
abbrev AAD : Am := [(.exit 2, [(.tmp 1, .box 2), (.cell 0 0, .di), (.cell 0 1, .dat Uo), (.tmp 3, .own 42 U7), (.tmp 7, .di)])]
def C0 [Lk] : (Int × List U1 × List U4 × List Int × Int × Int × Unit) → Option ((Int × List U1 × List U4 × List Int × Int × Int × Unit) ⊕ Ur ⊕ Unit) := fun (a0, a1, a2, a3, a4, a5, _) =>
 match (ilt a5 a0) with
 | true => match idx a3 a5 with
  | none => none
  | some x0 => match (ieq (AW a3 (AM a5) 0) a5) with
  | true => some (.inl (a0, a1, a2, a3, (IntKind.wrap .i64 (a4 + 1)), (IntKind.wrap .i64 (a5 + 1)), ()))
  | false => some (.inl (a0, a1, a2, a3, a4, (IntKind.wrap .i64 (a5 + 1)), ()))
 | false => some (.inr (.inl (a0, a1, a2, a4, ())))
abbrev AAG : AE := [(.tmp 1, .box 2), (.cell 0 0, .di), (.cell 0 1, .dat Uo), (.tmp 3, .own 42 U7), (.tmp 4, .di)]
abbrev AAE : Am := [(.ret, [(.tmp 2, .dat .bool)]), (.exit 0, [(.tmp 1, .box 2), (.cell 0 0, .di), (.cell 0 1, .dat Uo), (.tmp 3, .own 42 U7)])]
def CO [Lk] : Ur → Option (Ur ⊕ Uf ⊕ (Int × List U1 × List U4 × Unit) ⊕ Unit) := fun (a0, a1, a2, a3, _) =>
 match (ilt a3 (AO a1)) with
 | true => match idx a1 a3 with
  | none => none
  | some x0 => match (ilt x0.1 0) with
  | true => some (.inr (.inl (false, ())))
  | false => match (ile x0.2.1 x0.1) with
  | true => some (.inr (.inl (false, ())))
  | false => match (ile a0 x0.2.1) with
  | true => some (.inr (.inl (false, ())))
  | false => match (ilt x0.2.2.1 0) with
  | true => some (.inr (.inl (false, ())))
  | false => match Kt (a0, ()) with
  | none => none
  | some (y1, _) => match (ilt y1 x0.2.2.1) with
  | true => some (.inr (.inl (false, ())))
  | false => match (ilt 0 a3) with
  | true => match idx a1 (IntKind.wrap .i64 (a3 - 1)) with
   | none => none
   | some x2 => match (ilt x0.1 x2.1) with
   | true => some (.inr (.inl (false, ())))
   | false => match idx a1 (IntKind.wrap .i64 (a3 - 1)) with
   | none => none
   | some x3 => match (ieq x3.1 x0.1) with
   | true => match idx a1 (IntKind.wrap .i64 (a3 - 1)) with
    | none => none
    | some x4 => match (ile x0.2.1 x4.2.1) with
    | true => some (.inr (.inl (false, ())))
    | false => match x0.2.2.2.1 with
    | true => match (fits ((AO a2) + (AO ([(x0.1, (x0.2.1, ()))] : List U4)))) with
     | true => some (.inl (a0, a1, (A8 a2 ([(x0.1, (x0.2.1, ()))] : List U4)), (IntKind.wrap .i64 (a3 + 1)), ()))
     | false => none
    | false => some (.inl (a0, a1, a2, (IntKind.wrap .i64 (a3 + 1)), ()))
   | false => match x0.2.2.2.1 with
   | true => match (fits ((AO a2) + (AO ([(x0.1, (x0.2.1, ()))] : List U4)))) with
    | true => some (.inl (a0, a1, (A8 a2 ([(x0.1, (x0.2.1, ()))] : List U4)), (IntKind.wrap .i64 (a3 + 1)), ()))
    | false => none
   | false => some (.inl (a0, a1, a2, (IntKind.wrap .i64 (a3 + 1)), ()))
  | false => match x0.2.2.2.1 with
  | true => match (fits ((AO a2) + (AO ([(x0.1, (x0.2.1, ()))] : List U4)))) with
   | true => some (.inl (a0, a1, (A8 a2 ([(x0.1, (x0.2.1, ()))] : List U4)), (IntKind.wrap .i64 (a3 + 1)), ()))
   | false => none
  | false => some (.inl (a0, a1, a2, (IntKind.wrap .i64 (a3 + 1)), ()))
 | false => some (.inr (.inr (.inl (a0, a1, a2, ()))))
def D7 [Lk] : Uw → Option (Uf) := fun (a0, _) =>
 match (ilt a0.1 1) with
 | true => some (false, ())
 | false => match (ilt 64 a0.1) with
 | true => some (false, ())
 | false => match (ilt 400 (AO a0.2.1)) with
 | true => some (false, ())
 | false => match AR CO many (a0.1, a0.2.1, ([] : List U4), 0, ()) with
 | none => none
 | some r => match r with
 | .inl (o0, _) => some (o0, ())
 | .inr r => match r with
 | .inl (o1, o2, o3, _) => match Cl (o1, o3, ()) with
  | none => none
  | some (y4, _) => match AR C0 many (o1, o2, o3, y4, 0, 0, ()) with
  | none => none
  | some r => match r with
  | .inl (o5, o6, o7, o8, _) => some ((ieq o8 (IntKind.wrap .i64 (o5 - (AO o7)))), ())
  | .inr _ => none
 | .inr _ => none
def BW [Lk] := fun v => Lk.f (D7 v)
theorem Ey v : BW v = D7 v := AK _
abbrev VA : AE := [(.tmp 0, .dat Ub)]
abbrev UZ : AE := [(.tmp 0, .own 42 U7)]
abbrev UY : List RS := [.one]
abbrev ACL : AE := [(.tmp 1, .box 2), (.cell 0 0, .di), (.cell 0 1, .dat Uo), (.tmp 3, .own 42 U7), (.tmp 4, .di)]
abbrev ACK : Am := [(.exit 0, [(.tmp 3, .own 42 U7)])]
def Dx [Lk] : Ur → Option (Ur ⊕ V0 ⊕ Unit) := fun (a0, a1, a2, a3, _) =>
 match (ilt a3 (AO a1)) with
 | true => match idx a1 a3 with
  | none => none
  | some x0 => match idx a1 a3 with
  | none => none
  | some x1 => match (fits ((AO a2) + (AO ([(x0.1, (x1.2.1, ()))] : List U4)))) with
  | true => some (.inl (a0, a1, (A8 a2 ([(x0.1, (x1.2.1, ()))] : List U4)), (IntKind.wrap .i64 (a3 + 1)), ()))
  | false => none
 | false => some (.inr (.inl (a2, ())))
def Nc [Lk] : Uw → Option (V0) := fun (a0, _) =>
 match BW ((a0.1, (a0.2.1, ())), ()) with
 | none => none
 | some (y0, _) => match (!y0) with
 | true => some (([] : List U4), ())
 | false => match AR Dx many (a0.1, a0.2.1, ([] : List U4), 0, ()) with
 | none => none
 | some r => match r with
 | .inl (o1, _) => some (o1, ())
 | .inr _ => none
def Rb [Lk] := fun v => Lk.f (Nc v)
theorem ACN v : Rb v = Nc v := AK _
abbrev ASx : AE := [(.tmp 0, .di), (.tmp 1, .di)]
abbrev ASw : AE := [(.tmp 0, .dat .bool)]
abbrev ASv : List RS := [.one]
def AJU [Lk] : U4 → Option (Uf) := fun (a0, a1, _) =>
 match (ile 1 a0) with
 | true => match (ile a0 64) with
  | true => match (ile 0 a1) with
   | true => some ((ilt a1 a0), ())
   | false => some (false, ())
  | false => some (false, ())
 | false => some (false, ())
def AEI [Lk] := fun v => Lk.f (AJU v)
theorem AVN v : AEI v = AJU v := AK _
abbrev Sl : AE := [(.tmp 0, .di), (.tmp 1, .di)]
abbrev Sk : AE := [(.tmp 0, .di), (.tmp 1, .di), (.tmp 2, .dat .bool), (.tmp 3, .dat .bool)]
abbrev Sj : List RS := [.one, .one, .one, .one]
def M4 [Lk] : U4 → Option ((Int × Int × Bool × Bool × Unit)) := fun (a0, a1, _) =>
 match AEI (a0, a1, ()) with
 | none => none
 | some (y0, _) => match y0 with
 | true => some (a1, 0, false, true, ())
 | false => match (ilt a0 1) with
 | true => some (0, 0, false, false, ())
 | false => match (ilt 64 a0) with
 | true => some (0, 0, false, false, ())
 | false => match (ilt a1 a0) with
 | true => some (0, 0, false, false, ())
 | false => match (ile (IntKind.wrap .i64 (a0 + (IntKind.wrap .i64 (a0 * a0)))) a1) with
 | true => some (0, 0, false, false, ())
 | false => match quo? .i64 (IntKind.wrap .i64 (a1 - a0)) a0 with
 | none => none
 | some x1 => match rem? (IntKind.wrap .i64 (a1 - a0)) a0 with
 | none => none
 | some x2 => match (ieq x1 x2) with
 | true => some (0, 0, false, false, ())
 | false => some (x1, x2, true, true, ())
def M5 [Lk] := fun v => Lk.f (M4 v)
theorem Ym v : M5 v = M4 v := AK _
abbrev AKg : AE := [(.tmp 0, .di), (.tmp 1, .di), (.tmp 2, .di)]
abbrev AKf : AE := [(.tmp 0, .di)]
abbrev AKe : List RS := [.one]
def YA [Lk] : (Int × Int × Int × Unit) → Option (U8) := fun (a0, a1, a2, _) =>
 match AEI (a0, a1, ()) with
 | none => none
 | some (y0, _) => match (!y0) with
 | true => some ((-1 : Int), ())
 | false => match AEI (a0, a2, ()) with
 | none => none
 | some (y1, _) => match (!y1) with
 | true => some ((-1 : Int), ())
 | false => match (ieq a1 a2) with
 | true => some ((-1 : Int), ())
 | false => some ((IntKind.wrap .i64 ((IntKind.wrap .i64 (a0 + (IntKind.wrap .i64 (a1 * a0)))) + a2)), ())
def ACs [Lk] := fun v => Lk.f (YA v)
theorem APK v : ACs v = YA v := AK _
abbrev ABD : AE := [(.tmp 0, .di)]
abbrev ABC : AE := [(.tmp 0, .di), (.tmp 1, .own 55 U5), (.tmp 2, .di)]
abbrev ABB : List RS := [.agg 2, .one]
abbrev AFp : AE := [(.tmp 0, .di), (.tmp 2, .box 2), (.cell 0 0, .di), (.cell 0 1, .nil U5), (.tmp 4, .box 2), (.cell 1 0, .di), (.cell 1 1, .own 55 U5), (.tmp 5, .di)]
abbrev AFo : Am := [(.exit 0, [(.tmp 2, .box 2), (.cell 0 0, .di), (.cell 0 1, .nil U5), (.tmp 4, .box 2), (.cell 1 0, .di), (.cell 1 1, .own 55 U5)])]
def E2 [Lk] : (Int × Int × Int × List U3 × Int × Unit) → Option ((Int × Int × Int × List U3 × Int × Unit) ⊕ (Int × Int × List U3 × Unit) ⊕ Unit) := fun (a0, a1, a2, a3, a4, _) =>
 match (ilt a4 a0) with
 | true => match (fits ((AO a3) + (AO ([([a4] : List (Int))] : List U3)))) with
  | true => some (.inl (a0, a1, a2, (A8 a3 ([([a4] : List (Int))] : List U3)), (IntKind.wrap .i64 (a4 + 1)), ()))
  | false => none
 | false => some (.inr (.inl (a1, a2, a3, ())))
def Q3 [Lk] : U8 → Option (Uz) := fun (a0, _) =>
 match (ilt a0 1) with
 | true => some (0, ([] : List U3), 1, ())
 | false => match (ilt 64 a0) with
 | true => some (0, ([] : List U3), 1, ())
 | false => match AR E2 many (a0, 0, a0, ([] : List U3), 0, ()) with
 | none => none
 | some r => match r with
 | .inl (o0, o1, o2, _) => some (o1, o2, 0, ())
 | .inr _ => none
def ABF [Lk] := fun v => Lk.f (Q3 v)
theorem AFq v : ABF v = Q3 v := AK _
abbrev Of : AE := [(.tmp 0, .di), (.tmp 1, .di), (.tmp 2, .di)]
abbrev Oe : AE := [(.tmp 0, .dat .bool)]
abbrev Od : List RS := [.one]
def Jo [Lk] : (Int × Int × Int × Unit) → Option (Uf) := fun (a0, a1, a2, _) =>
 match M5 (a0, a1, ()) with
 | none => none
 | some (y0, y1, y2, y3, _) => match y3 with
 | true => match (!y2) with
  | true => match (ieq y0 a2) with
   | true => some (true, ())
   | false => match y2 with
   | true => some ((ieq y1 a2), ())
   | false => some (false, ())
  | false => match y2 with
  | true => some ((ieq y1 a2), ())
  | false => some (false, ())
 | false => some (false, ())
def LG [Lk] := fun v => Lk.f (Jo v)
theorem Vt v : LG v = Jo v := AK _
abbrev Yg : AE := [(.tmp 0, .di), (.tmp 1, .dat U5)]
abbrev Yf : AE := [(.tmp 0, .dat .bool)]
abbrev Ye : List RS := [.one]
abbrev AEt : AE := [(.tmp 0, .di), (.tmp 1, .own 3 U2), (.tmp 6, .di), (.tmp 14, .own 3 U2), (.tmp 15, .di), (.tmp 27, .dat .bool), (.tmp 28, .dat .bool), (.tmp 64, .dat .bool), (.tmp 67, .dat .bool), (.tmp 70, .di), (.tmp 71, .di), (.tmp 72, .dat .bool), (.tmp 75, .di), (.tmp 76, .di), (.tmp 77, .di), (.tmp 78, .di), (.tmp 79, .di), (.tmp 80, .dat .bool), (.tmp 83, .di), (.tmp 84, .own' 0), (.tmp 85, .di), (.tmp 86, .own' 0), (.tmp 87, .di), (.tmp 88, .di), (.tmp 89, .di), (.tmp 90, .own' 0), (.tmp 91, .di), (.tmp 92, .di), (.tmp 94, .di), (.tmp 95, .di), (.tmp 96, .dat .bool)]
abbrev AEq : Am := [(.exit 4, [(.tmp 0, .di), (.tmp 6, .di), (.tmp 14, .own 3 U2), (.tmp 27, .dat .bool), (.tmp 28, .dat .bool), (.tmp 64, .dat .bool), (.tmp 67, .dat .bool), (.tmp 70, .di), (.tmp 71, .di), (.tmp 72, .dat .bool), (.tmp 75, .di), (.tmp 76, .di), (.tmp 77, .di), (.tmp 78, .di), (.tmp 79, .di), (.tmp 80, .dat .bool), (.tmp 83, .di), (.tmp 84, .own 3 U2), (.tmp 85, .di), (.tmp 86, .own' 1), (.tmp 87, .di), (.tmp 88, .di), (.tmp 89, .di), (.tmp 90, .own' 1), (.tmp 91, .di), (.tmp 92, .di), (.tmp 94, .di), (.tmp 95, .di), (.tmp 96, .dat .bool)])]
def El [Lk] : Ux → Option (Ux ⊕ (Int × Int × List Int × Bool × Bool × Bool × Bool × Int × Int × Bool × Int × Int × Int × Int × Int × Bool × Int × List Int × Int × Int × Int × Int × Int × Int × Int × Int × Bool × Unit) ⊕ Unit) := fun (a0, a1, a2, a3, a4, a5, a6, a7, a8, a9, a10, a11, a12, a13, a14, a15, a16, a17, a18, a19, a20, a21, a22, a23, a24, a25, a26, a27, _) =>
 match (ilt a4 (AO a1)) with
 | true => match rem? (IntKind.wrap .i64 (a2 + a4)) (AO a1) with
  | none => none
  | some x0 => match idx a1 x0 with
  | none => none
  | some x1 => match (fits ((AO a3) + (AO ([(AW a1 (AM x0) 0)] : List (Int))))) with
  | true => some (.inl (a0, a1, a2, (A8 a3 ([(AW a1 (AM x0) 0)] : List (Int))), (IntKind.wrap .i64 (a4 + 1)), a5, a6, a7, a8, a9, a10, a11, a12, a13, a14, a15, a16, a17, a18, a19, a20, a21, a22, a23, a24, a25, a26, a27, ()))
  | false => none
 | false => some (.inr (.inl (a0, a2, a3, a5, a6, a7, a8, a9, a10, a11, a12, a13, a14, a15, a16, a17, a18, a1, a19, a20, a21, a22, a23, a24, a25, a26, a27, ())))
abbrev AEu : AE := [(.tmp 0, .di), (.tmp 1, .own 3 U2), (.tmp 5, .dat .bool), (.tmp 6, .di)]
abbrev AEr : Am := [(.exit 2, [(.tmp 0, .di), (.tmp 1, .own 3 U2), (.tmp 5, .dat .bool)])]
def CB [Lk] : (Int × List Int × Bool × Int × Unit) → Option ((Int × List Int × Bool × Int × Unit) ⊕ (Int × List Int × Bool × Unit) ⊕ Unit) := fun (a0, a1, a2, a3, _) =>
 match (ilt a3 (AO a1)) with
 | true => match (!a2) with
  | true => match idx a1 a3 with
   | none => none
   | some x0 => match rem? (IntKind.wrap .i64 (a3 + 1)) (AO a1) with
   | none => none
   | some x1 => match idx a1 x1 with
   | none => none
   | some x2 => match rem? (IntKind.wrap .i64 (a3 + 2)) (AO a1) with
   | none => none
   | some x3 => match idx a1 x3 with
   | none => none
   | some x4 => match M5 (a0, (AW a1 (AM a3) 0), ()) with
   | none => none
   | some (y5, y6, y7, y8, _) => match (ile 4 (AO a1)) with
   | true => match y8 with
    | true => match y7 with
     | true => match (ieq (AW a1 (AM x1) 0) y6) with
      | true => match ACs (a0, y6, y5, ()) with
       | none => none
       | some (y9, _) => match (ieq (AW a1 (AM x3) 0) y9) with
       | true => match rem? (IntKind.wrap .i64 ((IntKind.wrap .i64 (a3 + (AO a1))) - 1)) (AO a1) with
        | none => none
        | some x10 => match idx a1 x10 with
        | none => none
        | some x11 => match LG (a0, (AW a1 (AM x10) 0), y5, ()) with
        | none => none
        | some (y12, _) => match y12 with
        | true => match AR El many (a0, a1, a3, ([] : List (Int)), 3, a2, (!a2), y8, y7, (AW a1 (AM x1) 0), y6, (ieq (AW a1 (AM x1) 0) y6), (AW a1 (AM x3) 0), a0, y6, y5, y9, (ieq (AW a1 (AM x3) 0) y9), a0, a3, (AO a1), (IntKind.wrap .i64 (a3 + (AO a1))), (IntKind.wrap .i64 ((IntKind.wrap .i64 (a3 + (AO a1))) - 1)), (AO a1), x10, (AW a1 (AM x10) 0), y5, y12, ()) with
         | none => none
         | some r => match r with
         | .inl (o13, o14, o15, o16, o17, o18, o19, o20, o21, o22, o23, o24, o25, o26, o27, o28, o29, o30, o31, o32, o33, o34, o35, o36, o37, o38, o39, _) => some (.inl (o13, o15, true, (IntKind.wrap .i64 (o14 + 1)), ()))
         | .inr _ => none
        | false => some (.inl (a0, a1, a2, (IntKind.wrap .i64 (a3 + 1)), ()))
       | false => some (.inl (a0, a1, a2, (IntKind.wrap .i64 (a3 + 1)), ()))
      | false => some (.inl (a0, a1, a2, (IntKind.wrap .i64 (a3 + 1)), ()))
     | false => some (.inl (a0, a1, a2, (IntKind.wrap .i64 (a3 + 1)), ()))
    | false => some (.inl (a0, a1, a2, (IntKind.wrap .i64 (a3 + 1)), ()))
   | false => some (.inl (a0, a1, a2, (IntKind.wrap .i64 (a3 + 1)), ()))
  | false => some (.inr (.inl (a0, a1, a2, ())))
 | false => some (.inr (.inl (a0, a1, a2, ())))
abbrev AEv : AE := [(.tmp 0, .di), (.tmp 1, .own 3 U2)]
abbrev AEs : Am := [(.ret, [(.tmp 4, .dat .bool)]), (.exit 0, [(.tmp 0, .di), (.tmp 1, .own 3 U2)])]
def Gj [Lk] : V4 → Option (V4 ⊕ Uf ⊕ V4 ⊕ Unit) := fun (a0, a1, _) =>
 match (ilt 1 (AO a1)) with
 | true => match AR CB many (a0, a1, false, 0, ()) with
  | none => none
  | some r => match r with
  | .inl (o0, o1, o2, _) => match (!o2) with
   | true => some (.inr (.inl (false, ())))
   | false => some (.inl (o0, o1, ()))
  | .inr _ => none
 | false => some (.inr (.inr (.inl (a0, a1, ()))))
def QL [Lk] : V4 → Option (Uf) := fun (a0, a1, _) =>
 match (fits ((AO ([] : List (Int))) + (AO a1))) with
 | true => match AR Gj many (a0, (A8 ([] : List (Int)) a1), ()) with
  | none => none
  | some r => match r with
  | .inl (o0, _) => some (o0, ())
  | .inr r => match r with
  | .inl (o1, o2, _) => match (ieq (AO o2) 1) with
   | true => match idx o2 0 with
    | none => none
    | some x3 => match AEI (o1, (AW o2 0 0), ()) with
    | none => none
    | some (y4, _) => some (y4, ())
   | false => some (false, ())
  | .inr _ => none
 | false => none
def Yh [Lk] := fun v => Lk.f (QL v)
theorem AEw v : Yh v = QL v := AK _
abbrev Tg : AE := [(.tmp 0, .dat U5), (.tmp 1, .di)]
abbrev Tf : AE := [(.tmp 0, .di)]
abbrev Te : List RS := [.one]
abbrev AAh : AE := [(.tmp 0, .dat U5), (.tmp 1, .di), (.tmp 5, .di)]
abbrev AAg : Am := [(.ret, [(.tmp 4, .di)]), (.exit 0, [])]
def Dr [Lk] : Uj → Option (Uj ⊕ U8 ⊕ (Unit) ⊕ Unit) := fun (a0, a1, a2, _) =>
 match (ilt a2 (AO a0)) with
 | true => match idx a0 a2 with
  | none => none
  | some x0 => match (ieq x0 a1) with
  | true => some (.inr (.inl (a2, ())))
  | false => some (.inl (a0, a1, (IntKind.wrap .i64 (a2 + 1)), ()))
 | false => some (.inr (.inr (.inl ())))
def NM [Lk] : Um → Option (U8) := fun (a0, a1, _) =>
 match AR Dr many (a0, a1, 0, ()) with
 | none => none
 | some r => match r with
 | .inl (o0, _) => some (o0, ())
 | .inr r => match r with
 | .inl _ => some ((-1 : Int), ())
 | .inr _ => none
def Hy [Lk] := fun v => Lk.f (NM v)
theorem AAi v : Hy v = NM v := AK _
abbrev TU : AE := [(.tmp 0, .dat U5)]
abbrev TT : AE := [(.tmp 0, .dat .bool)]
abbrev TS : List RS := [.one]
abbrev AAN : AE := [(.tmp 0, .dat U5), (.tmp 3, .di)]
abbrev AAM : Am := [(.ret, [(.tmp 2, .dat .bool)]), (.exit 0, [])]
def C1 [Lk] : Um → Option (Um ⊕ Uf ⊕ (Unit) ⊕ Unit) := fun (a0, a1, _) =>
 match (ilt a1 (AO a0)) with
 | true => match idx a0 a1 with
  | none => none
  | some x0 => match (ilt x0 0) with
  | true => some (.inr (.inl (false, ())))
  | false => match idx a0 a1 with
  | none => none
  | some x1 => match (ilt 10000 x1) with
  | true => some (.inr (.inl (false, ())))
  | false => match DY a0 0 a1 with
  | none => none
  | some x2 => match idx a0 a1 with
  | none => none
  | some x3 => match Hy (x2, x3, ()) with
  | none => none
  | some (y4, _) => match (ile 0 y4) with
  | true => some (.inr (.inl (false, ())))
  | false => some (.inl (a0, (IntKind.wrap .i64 (a1 + 1)), ()))
 | false => some (.inr (.inr (.inl ())))
def NI [Lk] : Ul → Option (Uf) := fun (a0, _) =>
 match (ilt 1000 (AO a0)) with
 | true => some (false, ())
 | false => match AR C1 many (a0, 0, ()) with
 | none => none
 | some r => match r with
 | .inl (o0, _) => some (o0, ())
 | .inr r => match r with
 | .inl _ => some (true, ())
 | .inr _ => none
def J3 [Lk] := fun v => Lk.f (NI v)
theorem AAO v : J3 v = NI v := AK _
abbrev ACF : AE := [(.tmp 0, .dat U5), (.tmp 1, .di)]
abbrev ACE : AE := [(.tmp 0, .own 3 U2), (.tmp 1, .dat .bool)]
abbrev ACD : List RS := [.one, .one]
def RU [Lk] : Um → Option ((List Int × Bool × Unit)) := fun (a0, a1, _) =>
 match Hy (a0, a1, ()) with
 | none => none
 | some (y0, _) => match J3 (a0, ()) with
 | none => none
 | some (y1, _) => match (!y1) with
 | true => some (([] : List (Int)), false, ())
 | false => match (ilt y0 0) with
 | true => some (([] : List (Int)), false, ())
 | false => match DY a0 y0 (AO a0) with
 | none => none
 | some x2 => match (fits ((AO ([] : List (Int))) + (AO x2))) with
 | true => match DY a0 0 y0 with
  | none => none
  | some x3 => match (fits ((AO (A8 ([] : List (Int)) x2)) + (AO x3))) with
  | true => some ((A8 (A8 ([] : List (Int)) x2) x3), true, ())
  | false => none
 | false => none
def PY [Lk] := fun v => Lk.f (RU v)
theorem AGB v : PY v = RU v := AK _
abbrev TY : AE := [(.tmp 0, .dat U5)]
abbrev TX : AE := [(.tmp 0, .own 3 U2)]
abbrev TW : List RS := [.one]
abbrev AAX : AE := [(.tmp 0, .dat U5), (.tmp 3, .di), (.tmp 4, .di)]
abbrev AAW : Am := [(.exit 0, [(.tmp 0, .dat U5), (.tmp 3, .di)])]
def Dp [Lk] : Uj → Option (Uj ⊕ Um ⊕ Unit) := fun (a0, a1, a2, _) =>
 match (ilt a2 (AO a0)) with
 | true => match idx a0 a2 with
  | none => none
  | some x0 => some (.inl (a0, (Cb a1 x0), (IntKind.wrap .i64 (a2 + 1)), ()))
 | false => some (.inr (.inl (a0, a1, ())))
def NJ [Lk] : Ul → Option (Ul) := fun (a0, _) =>
 match J3 (a0, ()) with
 | none => none
 | some (y0, _) => match (!y0) with
 | true => some (([] : List (Int)), ())
 | false => match (ieq (AO a0) 0) with
 | true => some (([] : List (Int)), ())
 | false => match idx a0 0 with
 | none => none
 | some x1 => match AR Dp many (a0, x1, 0, ()) with
 | none => none
 | some r => match r with
 | .inl (o2, o3, _) => match PY (o2, o3, ()) with
  | none => none
  | some (y4, y5, _) => some (y4, ())
 | .inr _ => none
def NK [Lk] := fun v => Lk.f (NJ v)
theorem AAY v : NK v = NJ v := AK _
abbrev T9 : AE := [(.tmp 0, .dat Uh), (.tmp 1, .dat Uh)]
abbrev T8 : AE := [(.tmp 0, .dat .bool)]
abbrev T7 : List RS := [.one]
abbrev ABW : AE := [(.tmp 0, .dat Uh), (.tmp 1, .dat Uh), (.tmp 5, .di)]
abbrev ABV : Am := [(.ret, [(.tmp 4, .dat .bool)]), (.exit 0, [])]
def C6 [Lk] : (List U3 × List U3 × Int × Unit) → Option ((List U3 × List U3 × Int × Unit) ⊕ Uf ⊕ (Unit) ⊕ Unit) := fun (a0, a1, a2, _) =>
 match (ilt a2 (AO a0)) with
 | true => match idx a0 a2 with
  | none => none
  | some x0 => match idx a1 a2 with
  | none => none
  | some x1 => match UL (x0, x1, ()) with
  | none => none
  | some (y2, _) => match (!y2) with
  | true => some (.inr (.inl (false, ())))
  | false => some (.inl (a0, a1, (IntKind.wrap .i64 (a2 + 1)), ()))
 | false => some (.inr (.inr (.inl ())))
def NX [Lk] : (List U3 × List U3 × Unit) → Option (Uf) := fun (a0, a1, _) =>
 match (!(ieq (AO a0) (AO a1))) with
 | true => some (false, ())
 | false => match AR C6 many (a0, a1, 0, ()) with
 | none => none
 | some r => match r with
 | .inl (o0, _) => some (o0, ())
 | .inr r => match r with
 | .inl _ => some (true, ())
 | .inr _ => none
def Q4 [Lk] := fun v => Lk.f (NX v)
theorem ABX v : Q4 v = NX v := AK _
abbrev TR : AE := [(.tmp 0, .dat U9)]
abbrev TQ : AE := [(.tmp 0, .dat .bool)]
abbrev TP : List RS := [.one]
abbrev AAJ : AE := [(.tmp 1, .box 2), (.cell 0 0, .di), (.cell 0 1, .dat Uh), (.tmp 3, .own 4 .bool), (.tmp 4, .di), (.tmp 5, .di), (.tmp 6, .di), (.tmp 7, .dat U5), (.tmp 8, .di), (.tmp 44, .dat U5), (.tmp 45, .di), (.tmp 46, .dat .bool), (.tmp 49, .ptr' 0 0), (.tmp 50, .di), (.tmp 51, .dat U5), (.tmp 52, .dat .bool), (.tmp 53, .dat .bool), (.tmp 56, .dat U5), (.tmp 57, .dat U5), (.tmp 58, .own 55 U5), (.tmp 59, .dat U5), (.tmp 60, .own 55 U5), (.tmp 61, .dat .bool), (.tmp 62, .dat .bool), (.tmp 65, .dat U5), (.tmp 67, .di), (.tmp 68, .di), (.tmp 69, .dat .bool)]
abbrev AAH : Am := [(.ret, [(.tmp 2, .dat .bool)]), (.exit 2, [(.tmp 1, .box 2), (.cell 0 0, .di), (.cell 0 1, .dat Uh), (.tmp 3, .own 4 .bool), (.tmp 4, .di), (.tmp 5, .di), (.tmp 6, .di), (.tmp 44, .dat U5), (.tmp 45, .di), (.tmp 46, .dat .bool), (.tmp 49, .ptr' 0 0), (.tmp 50, .di), (.tmp 51, .dat U5), (.tmp 52, .dat .bool), (.tmp 53, .dat .bool), (.tmp 56, .dat U5), (.tmp 57, .dat U5), (.tmp 58, .own 55 U5), (.tmp 59, .dat U5), (.tmp 60, .own 55 U5), (.tmp 61, .dat .bool), (.tmp 62, .dat .bool), (.tmp 65, .dat U5), (.tmp 67, .di), (.tmp 68, .di), (.tmp 69, .dat .bool)])]
def CP [Lk] : Uu → Option (Uu ⊕ Uf ⊕ (Int × List U3 × List Bool × Int × Int × Int × List Int × Int × Bool × Int × List Int × Bool × Bool × List Int × List Int × List U3 × List Int × List U3 × Bool × Bool × List Int × Int × Int × Bool × Unit) ⊕ Unit) := fun (a0, a1, a2, a3, a4, a5, a6, a7, a8, a9, a10, a11, a12, a13, a14, a15, a16, a17, a18, a19, a20, a21, a22, a23, a24, a25, _) =>
 match (ilt a7 (AO a6)) with
 | true => match idx a6 a7 with
  | none => none
  | some x0 => match (ilt x0 a0) with
  | true => match idx a6 a7 with
   | none => none
   | some x1 => match idx a2 x1 with
   | none => none
   | some x2 => match (AW a2 (AM x1) false) with
   | true => some (.inr (.inl (false, ())))
   | false => match idx a6 a7 with
   | none => none
   | some x3 => match idx a2 x3 with
   | none => none
   | some x4 => some (.inl (a0, a1, (An a2 (AM x3) true), a3, (IntKind.wrap .i64 (a4 + 1)), a5, a6, (IntKind.wrap .i64 (a7 + 1)), a8, a9, a10, a11, a12, a13, a14, a15, a16, a17, a18, a19, a20, a21, a22, a23, a24, a25, ()))
  | false => some (.inl (a0, a1, a2, a3, a4, a5, a6, (IntKind.wrap .i64 (a7 + 1)), a8, a9, a10, a11, a12, a13, a14, a15, a16, a17, a18, a19, a20, a21, a22, a23, a24, a25, ()))
 | false => some (.inr (.inr (.inl (a0, a1, a2, a3, a4, a5, a8, a9, a10, a11, a12, a13, a14, a15, a16, a17, a18, a19, a20, a21, a22, a23, a24, a25, ()))))
abbrev AAK : AE := [(.tmp 1, .box 2), (.cell 0 0, .di), (.cell 0 1, .dat Uh), (.tmp 3, .own 4 .bool), (.tmp 4, .di), (.tmp 5, .di), (.tmp 6, .di)]
abbrev AAI : Am := [(.ret, [(.tmp 2, .dat .bool)]), (.exit 0, [(.tmp 1, .box 2), (.cell 0 0, .di), (.cell 0 1, .dat Uh), (.tmp 5, .di)])]
def CQ [Lk] : (Int × List U3 × List Bool × Int × Int × Int × Unit) → Option ((Int × List U3 × List Bool × Int × Int × Int × Unit) ⊕ Uf ⊕ Uz ⊕ Unit) := fun (a0, a1, a2, a3, a4, a5, _) =>
 match (ilt a5 (AO a1)) with
 | true => match idx a1 a5 with
  | none => none
  | some x0 => match J3 (x0, ()) with
  | none => none
  | some (y1, _) => match (!y1) with
  | true => some (.inr (.inl (false, ())))
  | false => match (ieq (AO x0) 0) with
  | true => some (.inr (.inl (false, ())))
  | false => match Yh (a0, x0, ()) with
  | none => none
  | some (y2, _) => match (!y2) with
  | true => some (.inr (.inl (false, ())))
  | false => match NK (x0, ()) with
  | none => none
  | some (y3, _) => match Q4 (([y3] : List U3), ([x0] : List U3), ()) with
  | none => none
  | some (y4, _) => match (!y4) with
  | true => some (.inr (.inl (false, ())))
  | false => match idx x0 0 with
  | none => none
  | some x5 => match (ile x5 a3) with
  | true => some (.inr (.inl (false, ())))
  | false => match idx x0 0 with
  | none => none
  | some x6 => match AR CP many (a0, a1, a2, x6, a4, a5, x0, 0, x0, (AO x0), (ieq (AO x0) 0), a0, x0, y2, (!y2), x0, y3, ([y3] : List U3), x0, ([x0] : List U3), y4, (!y4), x0, x5, a3, (ile x5 a3), ()) with
  | none => none
  | some r => match r with
  | .inl (o7, _) => some (.inr (.inl (o7, ())))
  | .inr r => match r with
  | .inl (o8, o9, o10, o11, o12, o13, o14, o15, o16, o17, o18, o19, o20, o21, o22, o23, o24, o25, o26, o27, o28, o29, o30, o31, _) => some (.inl (o8, o9, o10, o11, o12, (IntKind.wrap .i64 (o13 + 1)), ()))
  | .inr _ => none
 | false => some (.inr (.inr (.inl (a0, a1, a4, ()))))
def NG [Lk] : (Ua × Unit) → Option (Uf) := fun (a0, _) =>
 match (ilt a0.1 1) with
 | true => some (false, ())
 | false => match (ilt 64 a0.1) with
 | true => some (false, ())
 | false => match (ilt a0.1 (AO a0.2.1)) with
 | true => some (false, ())
 | false => match (JL a0.1 && JL a0.1 && ile a0.1 a0.1 && true) with
 | true => match AR CQ many (a0.1, a0.2.1, (JO (AM a0.1) false), (-1 : Int), (0 : Int), (0 : Int), ()) with
  | none => none
  | some r => match r with
  | .inl (o0, _) => some (o0, ())
  | .inr r => match r with
  | .inl (o1, o2, o3, _) => some ((ieq o3 o1), ())
  | .inr _ => none
 | false => none
def NH [Lk] := fun v => Lk.f (NG v)
theorem AAL v : NH v = NG v := AK _
abbrev Tc : AE := [(.tmp 0, .dat U9), (.tmp 1, .di)]
abbrev Tb : AE := [(.tmp 0, .di)]
abbrev Ta : List RS := [.one]
abbrev AAe : AE := [(.tmp 1, .di), (.tmp 2, .box 2), (.cell 0 0, .di), (.cell 0 1, .dat Uh), (.tmp 5, .di)]
abbrev AAd : Am := [(.ret, [(.tmp 4, .di)]), (.exit 0, [])]
def Dq [Lk] : (Int × Int × List U3 × Int × Unit) → Option ((Int × Int × List U3 × Int × Unit) ⊕ U8 ⊕ (Unit) ⊕ Unit) := fun (a0, a1, a2, a3, _) =>
 match (ilt a3 (AO a2)) with
 | true => match idx a2 a3 with
  | none => none
  | some x0 => match Hy (x0, a0, ()) with
  | none => none
  | some (y1, _) => match (ile 0 y1) with
  | true => some (.inr (.inl (a3, ())))
  | false => some (.inl (a0, a1, a2, (IntKind.wrap .i64 (a3 + 1)), ()))
 | false => some (.inr (.inr (.inl ())))
def NL [Lk] : V8 → Option (U8) := fun (a0, a1, _) =>
 match AR Dq many (a1, a0.1, a0.2.1, 0, ()) with
 | none => none
 | some r => match r with
 | .inl (o0, _) => some (o0, ())
 | .inr r => match r with
 | .inl _ => some ((-1 : Int), ())
 | .inr _ => none
def Hx [Lk] := fun v => Lk.f (NL v)
theorem AAf v : Hx v = NL v := AK _
abbrev AIa : AE := [(.tmp 0, .dat Uh), (.tmp 1, .dat U5)]
abbrev AIZ : AE := [(.tmp 0, .own 55 U5)]
abbrev AIY : List RS := [.one]
abbrev AMs : AE := [(.tmp 0, .dat Uh), (.tmp 1, .own 3 U2), (.tmp 5, .di)]
abbrev AMr : Am := [(.exit 0, [(.tmp 0, .dat Uh), (.tmp 1, .own 3 U2), (.tmp 5, .di)])]
def HM [Lk] : (List U3 × List Int × Int × Unit) → Option ((List U3 × List Int × Int × Unit) ⊕ (List U3 × List Int × Int × Unit) ⊕ Unit) := fun (a0, a1, a2, _) =>
 match (ilt a2 (AO a0)) with
 | true => match idx a0 a2 with
  | none => none
  | some x0 => match idx x0 0 with
  | none => none
  | some x1 => match idx a1 0 with
  | none => none
  | some x2 => match (ilt x1 (AW a1 0 0)) with
  | true => some (.inl (a0, a1, (IntKind.wrap .i64 (a2 + 1)), ()))
  | false => some (.inr (.inl (a0, a1, a2, ())))
 | false => some (.inr (.inl (a0, a1, a2, ())))
def Xv [Lk] : (List U3 × List Int × Unit) → Option (Ui) := fun (a0, a1, _) =>
 match NK (a1, ()) with
 | none => none
 | some (y0, _) => match AR HM many (a0, y0, 0, ()) with
 | none => none
 | some r => match r with
 | .inl (o1, o2, o3, _) => match DY o1 0 o3 with
  | none => none
  | some x4 => match (fits ((AO ([] : List U3)) + (AO x4))) with
  | true => match (fits ((AO (A8 ([] : List U3) x4)) + (AO ([o2] : List U3)))) with
   | true => match DY o1 o3 (AO o1) with
    | none => none
    | some x5 => match (fits ((AO (A8 (A8 ([] : List U3) x4) ([o2] : List U3))) + (AO x5))) with
    | true => some ((A8 (A8 (A8 ([] : List U3) x4) ([o2] : List U3)) x5), ())
    | false => none
   | false => none
  | false => none
 | .inr _ => none
def AFd [Lk] := fun v => Lk.f (Xv v)
theorem AMt v : AFd v = Xv v := AK _
abbrev K9 : AE := [(.tmp 0, .dat Uh), (.tmp 1, .di)]
abbrev K8 : AE := [(.tmp 0, .own 55 U5)]
abbrev K7 : List RS := [.one]
def Ht [Lk] : V2 → Option (Ui) := fun (a0, a1, _) =>
 match DY a0 0 a1 with
 | none => none
 | some x0 => match (fits ((AO ([] : List U3)) + (AO x0))) with
 | true => match DY a0 (IntKind.wrap .i64 (a1 + 1)) (AO a0) with
  | none => none
  | some x1 => match (fits ((AO (A8 ([] : List U3) x0)) + (AO x1))) with
  | true => some ((A8 (A8 ([] : List U3) x0) x1), ())
  | false => none
 | false => none
def D4 [Lk] := fun v => Lk.f (Ht v)
theorem QD v : D4 v = Ht v := AK _
abbrev ABd : AE := [(.tmp 0, .dat U9), (.tmp 1, .di), (.tmp 2, .di)]
abbrev ABc : AE := [(.tmp 0, .di), (.tmp 1, .dat Uh), (.tmp 2, .di)]
abbrev ABb : List RS := [.agg 2, .one]
def HR [Lk] : (Ua × Int × Int × Unit) → Option (Uz) := fun (a0, a1, a2, _) =>
 match NH ((a0.1, (a0.2.1, ())), ()) with
 | none => none
 | some (y0, _) => match (!y0) with
 | true => some (a0.1, a0.2.1, 1, ())
 | false => match AEI (a0.1, a1, ()) with
 | none => none
 | some (y1, _) => match (!y1) with
 | true => some (a0.1, a0.2.1, 10, ())
 | false => match AEI (a0.1, a2, ()) with
 | none => none
 | some (y2, _) => match (!y2) with
 | true => some (a0.1, a0.2.1, 10, ())
 | false => match Hx ((a0.1, (a0.2.1, ())), a1, ()) with
 | none => none
 | some (y3, _) => match Hx ((a0.1, (a0.2.1, ())), a2, ()) with
 | none => none
 | some (y4, _) => match (ieq y3 y4) with
 | true => some (a0.1, a0.2.1, 5, ())
 | false => match Hx ((a0.1, (a0.2.1, ())), a1, ()) with
 | none => none
 | some (y5, _) => match Hx ((a0.1, (a0.2.1, ())), a2, ()) with
 | none => none
 | some (y6, _) => match idx a0.2.1 y5 with
 | none => none
 | some x7 => match PY (x7, a1, ()) with
 | none => none
 | some (y8, y9, _) => match idx a0.2.1 y6 with
 | none => none
 | some x10 => match PY (x10, a2, ()) with
 | none => none
 | some (y11, y12, _) => match ACs (a0.1, a1, a2, ()) with
 | none => none
 | some (y13, _) => match (fits ((AO ([a1, y13] : List (Int))) + (AO y11))) with
 | true => match ACs (a0.1, a2, a1, ()) with
  | none => none
  | some (y14, _) => match (fits ((AO (A8 ([a1, y13] : List (Int)) y11)) + (AO ([y14] : List (Int))))) with
  | true => match DY y8 1 (AO y8) with
   | none => none
   | some x15 => match (fits ((AO (A8 (A8 ([a1, y13] : List (Int)) y11) ([y14] : List (Int)))) + (AO (DS 1 (AM (AO x15)) y8)))) with
   | true => match D4 (a0.2.1, (imax y5 y6), ()) with
    | none => none
    | some (y16, _) => match D4 (y16, (Cb y5 y6), ()) with
    | none => none
    | some (y17, _) => match AFd (y17, (A8 (A8 (A8 ([a1, y13] : List (Int)) y11) ([y14] : List (Int))) (DS 1 (AM (AO x15)) y8)), ()) with
    | none => none
    | some (y18, _) => some (a0.1, y18, 0, ())
   | false => none
  | false => none
 | false => none
def Lu [Lk] := fun v => Lk.f (HR v)
theorem JD v : Lu v = HR v := AK _
abbrev Zv : AE := [(.tmp 0, .dat Us), (.tmp 1, .dat Us)]
abbrev Zu : AE := [(.tmp 0, .dat .bool)]
abbrev Zt : List RS := [.one]
abbrev AFQ : AE := [(.tmp 0, .dat Us), (.tmp 1, .dat Us), (.tmp 5, .di)]
abbrev AFP : Am := [(.ret, [(.tmp 4, .dat .bool)]), (.exit 0, [])]
def Et [Lk] : (List U4 × List U4 × Int × Unit) → Option ((List U4 × List U4 × Int × Unit) ⊕ Uf ⊕ (Unit) ⊕ Unit) := fun (a0, a1, a2, _) =>
 match (ilt a2 (AO a0)) with
 | true => match idx a0 a2 with
  | none => none
  | some x0 => match idx a1 a2 with
  | none => none
  | some x1 => match (!(ieq x0.1 x1.1 && (ieq x0.2.1 x1.2.1 && true))) with
  | true => some (.inr (.inl (false, ())))
  | false => some (.inl (a0, a1, (IntKind.wrap .i64 (a2 + 1)), ()))
 | false => some (.inr (.inr (.inl ())))
def Qf [Lk] : (List U4 × List U4 × Unit) → Option (Uf) := fun (a0, a1, _) =>
 match (!(ieq (AO a0) (AO a1))) with
 | true => some (false, ())
 | false => match AR Et many (a0, a1, 0, ()) with
 | none => none
 | some r => match r with
 | .inl (o0, _) => some (o0, ())
 | .inr r => match r with
 | .inl _ => some (true, ())
 | .inr _ => none
def TK [Lk] := fun v => Lk.f (Qf v)
theorem AFR v : TK v = Qf v := AK _
abbrev AZe : AE := [(.tmp 0, .dat U9), (.tmp 1, .di)]
abbrev AZd : AE := [(.tmp 0, .di)]
abbrev AZc : List RS := [.one]
def AUI [Lk] : V8 → Option (U8) := fun (a0, a1, _) =>
 match tin (a0.1, a1, ()) with
 | none => none
 | some (y0, _) => match (!y0) with
 | true => some ((-1 : Int), ())
 | false => match OZ ((a0.1, (a0.2.1, ())), ()) with
 | none => none
 | some (y1, _) => match (!y1) with
 | true => some ((-1 : Int), ())
 | false => match Oa ((a0.1, (a0.2.1, ())), a1, ()) with
 | none => none
 | some (y2, _) => some (y2, ())
def tof [Lk] := fun v => Lk.f (AUI v)
theorem AZf v : tof v = AUI v := AK _
abbrev So : AE := [(.tmp 0, .dat U9), (.tmp 1, .dat Us)]
abbrev Sn : AE := [(.tmp 0, .di)]
abbrev Sm : List RS := [.one]
abbrev Yo : AE := [(.tmp 1, .dat Us), (.tmp 2, .box 2), (.cell 0 0, .di), (.cell 0 1, .dat Uh), (.tmp 5, .di)]
abbrev Yn : Am := [(.ret, [(.tmp 4, .di)]), (.exit 0, [])]
def Dm [Lk] : (List U4 × Int × List U3 × Int × Unit) → Option ((List U4 × Int × List U3 × Int × Unit) ⊕ U8 ⊕ (Unit) ⊕ Unit) := fun (a0, a1, a2, a3, _) =>
 match (ilt a3 (AO a0)) with
 | true => match idx a0 a3 with
  | none => none
  | some x0 => match (ilt x0.1 0) with
  | true => some (.inr (.inl (10, ())))
  | false => match idx a0 a3 with
  | none => none
  | some x1 => match (ile a1 x1.1) with
  | true => some (.inr (.inl (10, ())))
  | false => match idx a0 a3 with
  | none => none
  | some x2 => match (ilt x2.2.1 0) with
  | true => some (.inr (.inl (10, ())))
  | false => match idx a0 a3 with
  | none => none
  | some x3 => match (ile a1 x3.2.1) with
  | true => some (.inr (.inl (10, ())))
  | false => some (.inl (a0, a1, a2, (IntKind.wrap .i64 (a3 + 1)), ()))
 | false => some (.inr (.inr (.inl ())))
def M6 [Lk] : V9 → Option (U8) := fun (a0, a1, _) =>
 match NH ((a0.1, (a0.2.1, ())), ()) with
 | none => none
 | some (y0, _) => match (!y0) with
 | true => some (1, ())
 | false => match AR Dm many (a1, a0.1, a0.2.1, 0, ()) with
 | none => none
 | some r => match r with
 | .inl (o1, _) => some (o1, ())
 | .inr r => match r with
 | .inl _ => some (0, ())
 | .inr _ => none
def QN [Lk] := fun v => Lk.f (M6 v)
theorem Yp v : QN v = M6 v := AK _
abbrev UD : AE := [(.tmp 0, .dat U9), (.tmp 1, .dat Us)]
abbrev UC : AE := [(.tmp 0, .dat U9), (.tmp 1, .own 4 .bool), (.tmp 2, .di)]
abbrev UB : List RS := [.one, .one, .one]
abbrev ABZ : AE := [(.tmp 1, .dat Us), (.tmp 2, .box 2), (.cell 0 0, .di), (.cell 0 1, .dat Uh), (.tmp 4, .box 2), (.cell 1 0, .di), (.cell 1 1, .nil U5), (.tmp 8, .own 4 .bool), (.tmp 9, .di)]
abbrev ABY : Am := [(.exit 0, [(.tmp 2, .box 2), (.cell 0 0, .di), (.cell 0 1, .dat Uh), (.tmp 4, .box 2), (.cell 1 0, .di), (.cell 1 1, .nil U5), (.tmp 8, .own 4 .bool)])]
def Dv [Lk] : (List U4 × Int × List U3 × Int × List Bool × Int × Unit) → Option ((List U4 × Int × List U3 × Int × List Bool × Int × Unit) ⊕ (Int × List U3 × Int × List Bool × Unit) ⊕ Unit) := fun (a0, a1, a2, a3, a4, a5, _) =>
 match (ilt a5 (AO a0)) with
 | true => match idx a0 a5 with
  | none => none
  | some x0 => match idx a0 a5 with
  | none => none
  | some x1 => match Lu ((a1, (a2, ())), x0.1, x1.2.1, ()) with
  | none => none
  | some (y2, y3, y4, _) => match (fits ((AO a4) + (AO ([(ieq y4 0)] : List (Bool))))) with
  | true => some (.inl (a0, y2, y3, a3, (A8 a4 ([(ieq y4 0)] : List (Bool))), (IntKind.wrap .i64 (a5 + 1)), ()))
  | false => none
 | false => some (.inr (.inl (a1, a2, a3, a4, ())))
def NY [Lk] : V9 → Option ((Ua × List Bool × Int × Unit)) := fun (a0, a1, _) =>
 match QN ((a0.1, (a0.2.1, ())), a1, ()) with
 | none => none
 | some (y0, _) => match (!(ieq y0 0)) with
 | true => some ((a0.1, (a0.2.1, ())), ([] : List (Bool)), y0, ())
 | false => match AR Dv many (a1, a0.1, a0.2.1, 0, ([] : List (Bool)), 0, ()) with
 | none => none
 | some r => match r with
 | .inl (o1, o2, o3, o4, _) => some ((o1, (o2, ())), o4, 0, ())
 | .inr _ => none
def Q5 [Lk] := fun v => Lk.f (NY v)
theorem ABa v : Q5 v = NY v := AK _
abbrev Pt : AE := [(.tmp 0, .dat U9), (.tmp 1, .dat Us)]
abbrev Ps : AE := [(.tmp 0, .own 4 .bool), (.tmp 1, .di)]
abbrev Pr : List RS := [.one, .one]
def KT [Lk] : V9 → Option ((List Bool × Int × Unit)) := fun (a0, a1, _) =>
 match Q5 ((a0.1, (a0.2.1, ())), a1, ()) with
 | none => none
 | some (y0, y1, y2, _) => some (y1, y2, ())
def MS [Lk] := fun v => Lk.f (KT v)
theorem Wn v : MS v = KT v := AK _
abbrev Sh : AE := [(.tmp 0, .dat Ub), (.tmp 1, .di)]
abbrev Sf : AE := [(.tmp 0, .own 42 U7)]
abbrev Se : List RS := [.one]
abbrev Yc : AE := [(.tmp 1, .di), (.tmp 2, .box 2), (.cell 0 0, .di), (.cell 0 1, .dat Uo), (.tmp 5, .own 42 U7), (.tmp 6, .di)]
abbrev Yb : Am := [(.exit 0, [(.tmp 5, .own 42 U7)])]
def Dl [Lk] : (Int × Int × List U1 × List U4 × Int × Unit) → Option ((Int × Int × List U1 × List U4 × Int × Unit) ⊕ V0 ⊕ Unit) := fun (a0, a1, a2, a3, a4, _) =>
 match (ilt a4 (AO a2)) with
 | true => match idx a2 a4 with
  | none => none
  | some x0 => match x0.2.2.2.1 with
  | true => match idx a2 a4 with
   | none => none
   | some x1 => match (ile a0 x1.2.2.1) with
   | true => match idx a2 a4 with
    | none => none
    | some x2 => match idx a2 a4 with
    | none => none
    | some x3 => match (fits ((AO a3) + (AO ([(x2.1, (x3.2.1, ()))] : List U4)))) with
    | true => some (.inl (a0, a1, a2, (A8 a3 ([(x2.1, (x3.2.1, ()))] : List U4)), (IntKind.wrap .i64 (a4 + 1)), ()))
    | false => none
   | false => some (.inl (a0, a1, a2, a3, (IntKind.wrap .i64 (a4 + 1)), ()))
  | false => some (.inl (a0, a1, a2, a3, (IntKind.wrap .i64 (a4 + 1)), ()))
 | false => some (.inr (.inl (a3, ())))
def M0 [Lk] : (Ue × Int × Unit) → Option (V0) := fun (a0, a1, _) =>
 match AR Dl many (a1, a0.1, a0.2.1, ([] : List U4), 0, ()) with
 | none => none
 | some r => match r with
 | .inl (o0, _) => some (o0, ())
 | .inr _ => none
def Jg [Lk] := fun v => Lk.f (M0 v)
theorem Yd v : Jg v = M0 v := AK _
end
end Go.Pev
end
section
namespace Go.Pev
set_option maxRecDepth 100000
noncomputable section
attribute [local irreducible] OK KL PS N5 Abq Abr Abs Qm AAQ Zf Ze KS AT many IntKind.wrap AO An AW A8 DD DS JO AM CW Cb imax Af Ak
abbrev UJ : AE := [(.tmp 0, .dat Ub), (.tmp 1, .di)]
abbrev UI : AE := [(.tmp 0, .dat U9), (.tmp 1, .di)]
abbrev UH : List RS := [.one, .one]
def Gm [Lk] : (Ue × Int × Unit) → Option (V8) := fun (a0, a1, _) =>
 match CE ((a0.1, (a0.2.1, ())), ()) with
 | none => none
 | some (y0, _) => match (!y0) with
 | true => some ((0, (([] : List U3), ())), 1, ())
 | false => match PC ((a0.1, (a0.2.1, ())), a1, ()) with
 | none => none
 | some (y1, _) => match fof (a0.1, y1, ()) with
 | none => none
 | some (y2, y3, _) => some ((y2.1, (y2.2.1, ())), y3, ())
def H5 [Lk] := fun v => Lk.f (Gm v)
theorem KH v : H5 v = Gm v := AK _
abbrev Zj : AE := [(.tmp 0, .di), (.tmp 1, .dat Us)]
abbrev Zi : AE := [(.tmp 0, .di), (.tmp 1, .di)]
abbrev Zh : List RS := [.one, .one]
abbrev AFK : AE := [(.tmp 7, .di), (.tmp 8, .di), (.tmp 17, .own 3 U2), (.tmp 18, .di), (.tmp 19, .di)]
abbrev AFJ : Am := [(.exit 0, [(.tmp 7, .di), (.tmp 8, .di)])]
def Er [Lk] : (Int × Int × List Int × Int × Int × Unit) → Option ((Int × Int × List Int × Int × Int × Unit) ⊕ U4 ⊕ Unit) := fun (a0, a1, a2, a3, a4, _) =>
 match (ilt a4 a3) with
 | true => match idx a2 a4 with
  | none => none
  | some x0 => match (ieq (AW a2 (AM a4) 0) a4) with
  | true => some (.inl (a0, (IntKind.wrap .i64 (a1 + 1)), a2, a3, (IntKind.wrap .i64 (a4 + 1)), ()))
  | false => some (.inl (a0, a1, a2, a3, (IntKind.wrap .i64 (a4 + 1)), ()))
 | false => some (.inr (.inl (a0, a1, ())))
def Qb [Lk] : V1 → Option (U4) := fun (a0, a1, _) =>
 match Le (a0, a1, ()) with
 | none => none
 | some (y0, y1, _) => match AR Er many (y1, 0, y0, (AO y0), 0, ()) with
 | none => none
 | some r => match r with
 | .inl (o2, o3, _) => some (o3, o2, ())
 | .inr _ => none
def Zl [Lk] := fun v => Lk.f (Qb v)
theorem AFL v : Zl v = Qb v := AK _
abbrev AJx : AE := [(.tmp 0, .dat U9), (.tmp 1, .di), (.tmp 2, .di)]
abbrev AJw : AE := [(.tmp 0, .dat .bool), (.tmp 1, .di)]
abbrev AJv : List RS := [.one, .one]
def X6 [Lk] : (Ua × Int × Int × Unit) → Option ((Bool × Int × Unit)) := fun (a0, a1, a2, _) =>
 match Il ((a0.1, (a0.2.1, ())), ([a1, a2] : List (Int)), ()) with
 | none => none
 | some (y0, _) => match (!(ieq y0 0)) with
 | true => some (false, y0, ())
 | false => match tof ((a0.1, (a0.2.1, ())), a1, ()) with
 | none => none
 | some (y1, _) => match tof ((a0.1, (a0.2.1, ())), a2, ()) with
 | none => none
 | some (y2, _) => some ((ieq y1 y2), 0, ())
def AOf [Lk] := fun v => Lk.f (X6 v)
theorem AOe v : AOf v = X6 v := AK _
abbrev AJr : AE := [(.tmp 0, .dat U9), (.tmp 1, .di)]
abbrev AJq : AE := [(.tmp 0, .di), (.tmp 1, .di)]
abbrev AJp : List RS := [.one, .one]
def X5 [Lk] : V8 → Option (U4) := fun (a0, a1, _) =>
 match Il ((a0.1, (a0.2.1, ())), ([a1] : List (Int)), ()) with
 | none => none
 | some (y0, _) => match (!(ieq y0 0)) with
 | true => some (0, y0, ())
 | false => match tof ((a0.1, (a0.2.1, ())), a1, ()) with
 | none => none
 | some (y1, _) => match idx a0.2.1 y1 with
 | none => none
 | some x2 => match quo? .i64 (IntKind.wrap .i64 ((AO x2) + 2)) 3 with
 | none => none
 | some x3 => some (x3, 0, ())
def AOY [Lk] := fun v => Lk.f (X5 v)
theorem AOX v : AOY v = X5 v := AK _
abbrev TE : AE := [(.tmp 0, .dat U0), (.tmp 1, .dat U0)]
abbrev TD : AE := [(.tmp 0, .di)]
abbrev TC : List RS := [.one]
def NC [Lk] : (U1 × U1 × Unit) → Option (U8) := fun (a0, a1, _) =>
 match F5 (a1.2.2.1, a0.2.2.1, ()) with
 | none => none
 | some (y0, _) => some (y0, ())
def By [Lk] := fun v => Lk.f (NC v)
theorem ZU v : By v = NC v := AK _
abbrev ASn : AE := [(.tmp 0, .own 44 U0), (.tmp 1, .di), (.tmp 2, .di), (.tmp 3, .clo 73 [])]
abbrev ASm : AE := [(.obj 0, .own 44 U0)]
abbrev ASl : List RS := []
abbrev AVD : AE := [(.obj 0, .own 44 U0), (.tmp 0, .own' 0), (.tmp 1, .di), (.tmp 2, .di), (.tmp 3, .clo 73 []), (.tmp 8, .di), (.tmp 9, .di)]
abbrev AVB : Am := [(.exit 2, [(.obj 0, .own 44 U0), (.tmp 0, .own' 0), (.tmp 1, .di), (.tmp 2, .di), (.tmp 3, .clo 73 []), (.tmp 8, .di)])]
def AU9 [Lk] : Un → Option (Un ⊕ Uc ⊕ Unit) := Fa ((0, (0, (0, (false, ())))) : U1) By
abbrev AVE : AE := [(.obj 0, .own 44 U0), (.tmp 0, .own' 0), (.tmp 1, .di), (.tmp 2, .di), (.tmp 3, .clo 73 []), (.tmp 8, .di)]
abbrev AVC : Am := [(.exit 0, [(.obj 0, .own 44 U0)])]
def AVA [Lk] : Uc → Option (Uc ⊕ Uq ⊕ Unit) := Dh ((0, (0, (0, (false, ())))) : U1) By
def Abg [Lk] : Up → Option (Uq) := PO ((0, (0, (0, (false, ())))) : U1) By
def AEH [Lk] (v : Up) : Option (Uq) := Abl ((0, (0, (0, (false, ())))) : U1) By v
theorem AVF v : AEH v = Abg v := AK _
abbrev AHQ : AE := [(.tmp 0, .own 44 U0), (.tmp 1, .di), (.tmp 2, .di), (.tmp 3, .di), (.tmp 4, .clo 73 [])]
abbrev AHP : AE := [(.obj 0, .own 44 U0)]
abbrev AHO : List RS := []
abbrev ALn : AE := [(.obj 0, .own 44 U0), (.tmp 0, .own' 0), (.tmp 1, .di), (.tmp 2, .di), (.tmp 3, .di), (.tmp 10, .di)]
abbrev ALm : Am := [(.exit 0, [(.obj 0, .own 44 U0)])]
def G8 [Lk] : Un → Option (Un ⊕ Uq ⊕ Unit) := fun (a0, a1, a2, a3, a4, _) =>
 match (ilt a4 a3) with
 | true => match idx a0 (IntKind.wrap .i64 (a2 + a4)) with
  | none => none
  | some x0 => match idx a0 (IntKind.wrap .i64 (a1 + a4)) with
  | none => none
  | some x1 => match idx a0 (IntKind.wrap .i64 (a1 + a4)) with
  | none => none
  | some x2 => match idx (An a0 (AM (IntKind.wrap .i64 (a1 + a4))) ((AW a0 (AM (IntKind.wrap .i64 (a2 + a4))) (0, (0, (0, (false, ()))))).1, ((AW a0 (AM (IntKind.wrap .i64 (a2 + a4))) (0, (0, (0, (false, ()))))).2.1, ((AW a0 (AM (IntKind.wrap .i64 (a2 + a4))) (0, (0, (0, (false, ()))))).2.2.1, ((AW a0 (AM (IntKind.wrap .i64 (a2 + a4))) (0, (0, (0, (false, ()))))).2.2.2.1, ()))))) (IntKind.wrap .i64 (a2 + a4)) with
  | none => none
  | some x3 => some (.inl ((An (An a0 (AM (IntKind.wrap .i64 (a1 + a4))) ((AW a0 (AM (IntKind.wrap .i64 (a2 + a4))) (0, (0, (0, (false, ()))))).1, ((AW a0 (AM (IntKind.wrap .i64 (a2 + a4))) (0, (0, (0, (false, ()))))).2.1, ((AW a0 (AM (IntKind.wrap .i64 (a2 + a4))) (0, (0, (0, (false, ()))))).2.2.1, ((AW a0 (AM (IntKind.wrap .i64 (a2 + a4))) (0, (0, (0, (false, ()))))).2.2.2.1, ()))))) (AM (IntKind.wrap .i64 (a2 + a4))) ((AW a0 (AM (IntKind.wrap .i64 (a1 + a4))) (0, (0, (0, (false, ()))))).1, ((AW a0 (AM (IntKind.wrap .i64 (a1 + a4))) (0, (0, (0, (false, ()))))).2.1, ((AW a0 (AM (IntKind.wrap .i64 (a1 + a4))) (0, (0, (0, (false, ()))))).2.2.1, ((AW a0 (AM (IntKind.wrap .i64 (a1 + a4))) (0, (0, (0, (false, ()))))).2.2.2.1, ()))))), a1, a2, a3, (IntKind.wrap .i64 (a4 + 1)), ()))
 | false => some (.inr (.inl (a0, ())))
def Xl [Lk] : Uc → Option (Uq) := fun (a0, a1, a2, a3, _) =>
 match AR G8 many (a0, a1, a2, a3, 0, ()) with
 | none => none
 | some r => match r with
 | .inl (o0, _) => some (o0, ())
 | .inr _ => none
def Yt [Lk] := fun v => Lk.f (Xl v)
theorem ALo v : Yt v = Xl v := AK _
abbrev AQv : AE := [(.tmp 0, .own 44 U0), (.tmp 1, .di), (.tmp 2, .di), (.tmp 3, .di), (.tmp 4, .clo 73 [])]
abbrev AQu : AE := [(.obj 0, .own 44 U0)]
abbrev AQt : List RS := []
abbrev AUf : AE := [(.obj 0, .own 44 U0), (.tmp 0, .own' 0), (.tmp 2, .di), (.tmp 4, .clo 73 []), (.tmp 10, .di), (.tmp 11, .di)]
abbrev AUe : Am := [(.exit 0, [(.obj 0, .own 44 U0), (.tmp 0, .own' 0), (.tmp 2, .di), (.tmp 4, .clo 73 []), (.tmp 10, .di)])]
def NF [Lk] : Uc → Option (Uc ⊕ Up ⊕ Unit) := fun (a0, a1, a2, a3, _) =>
 match (!(ieq a2 a3)) with
 | true => match (ilt a3 a2) with
  | true => match Yt (a0, (IntKind.wrap .i64 (a1 - a2)), a1, a3, ()) with
   | none => none
   | some (y0, _) => some (.inl (y0, a1, (IntKind.wrap .i64 (a2 - a3)), a3, ()))
  | false => match Yt (a0, (IntKind.wrap .i64 (a1 - a2)), (IntKind.wrap .i64 ((IntKind.wrap .i64 (a1 + a3)) - a2)), a2, ()) with
  | none => none
  | some (y1, _) => some (.inl (y1, a1, a2, (IntKind.wrap .i64 (a3 - a2)), ()))
 | false => some (.inr (.inl (a0, a1, a2, ())))
def AIL [Lk] : Uc → Option (Uq) := fun (a0, a1, a2, a3, _) =>
 match AR NF many (a0, a2, (IntKind.wrap .i64 (a2 - a1)), (IntKind.wrap .i64 (a3 - a2)), ()) with
 | none => none
 | some r => match r with
 | .inl (o0, o1, o2, _) => match Yt (o0, (IntKind.wrap .i64 (o1 - o2)), o1, o2, ()) with
  | none => none
  | some (y3, _) => some (y3, ())
 | .inr _ => none
def AQx [Lk] := fun v => Lk.f (AIL v)
theorem AUg v : AQx v = AIL v := AK _
abbrev Ys : AE := [(.tmp 0, .own 44 U0), (.tmp 1, .di), (.tmp 2, .di), (.tmp 3, .di), (.tmp 4, .clo 73 [])]
abbrev Yr : AE := [(.obj 0, .own 44 U0)]
abbrev Yq : List RS := []
abbrev AUR : AE := [(.obj 0, .own 44 U0), (.tmp 0, .own' 0), (.tmp 1, .di), (.tmp 2, .di), (.tmp 3, .di), (.tmp 4, .clo 73 []), (.tmp 18, .di), (.tmp 19, .di), (.tmp 20, .di), (.tmp 21, .di), (.tmp 22, .di)]
abbrev AUM : Am := [(.exit 8, [(.obj 0, .own 44 U0), (.tmp 0, .own' 0), (.tmp 1, .di), (.tmp 2, .di), (.tmp 3, .di), (.tmp 4, .clo 73 []), (.tmp 18, .di), (.tmp 19, .di), (.tmp 20, .di)])]
def EJ [Lk] (self : Uc → Option (Uq)) : (List U1 × Int × Int × Int × Int × Int × Int × Int × Int × Unit) → Option ((List U1 × Int × Int × Int × Int × Int × Int × Int × Int × Unit) ⊕ (List U1 × Int × Int × Int × Int × Int × Int × Unit) ⊕ Unit) := fun (a0, a1, a2, a3, a4, a5, a6, a7, a8, _) =>
 match (ilt a6 a7) with
 | true => match shr? .u64 (IntKind.wrap .u64 (IntKind.wrap .i64 (a6 + a7))) 1 with
  | none => none
  | some x0 => match idx a0 (IntKind.wrap .i64 (a8 - (IntKind.wrap .i64 x0))) with
  | none => none
  | some x1 => match idx a0 (IntKind.wrap .i64 x0) with
  | none => none
  | some x2 => match By (((AW a0 (AM (IntKind.wrap .i64 (a8 - (IntKind.wrap .i64 x0)))) (0, (0, (0, (false, ()))))).1, ((AW a0 (AM (IntKind.wrap .i64 (a8 - (IntKind.wrap .i64 x0)))) (0, (0, (0, (false, ()))))).2.1, ((AW a0 (AM (IntKind.wrap .i64 (a8 - (IntKind.wrap .i64 x0)))) (0, (0, (0, (false, ()))))).2.2.1, ((AW a0 (AM (IntKind.wrap .i64 (a8 - (IntKind.wrap .i64 x0)))) (0, (0, (0, (false, ()))))).2.2.2.1, ())))), ((AW a0 (AM (IntKind.wrap .i64 x0)) (0, (0, (0, (false, ()))))).1, ((AW a0 (AM (IntKind.wrap .i64 x0)) (0, (0, (0, (false, ()))))).2.1, ((AW a0 (AM (IntKind.wrap .i64 x0)) (0, (0, (0, (false, ()))))).2.2.1, ((AW a0 (AM (IntKind.wrap .i64 x0)) (0, (0, (0, (false, ()))))).2.2.2.1, ())))), ()) with
  | none => none
  | some (y3, _) => match (!(ilt y3 0)) with
  | true => some (.inl (a0, a1, a2, a3, a4, a5, (IntKind.wrap .i64 ((IntKind.wrap .i64 x0) + 1)), a7, a8, ()))
  | false => some (.inl (a0, a1, a2, a3, a4, a5, a6, (IntKind.wrap .i64 x0), a8, ()))
 | false => some (.inr (.inl (a0, a1, a2, a3, a4, a5, a6, ())))
abbrev AUS : AE := [(.obj 0, .own 44 U0), (.tmp 0, .own' 0), (.tmp 14, .di), (.tmp 17, .di)]
abbrev AUN : Am := [(.exit 6, [(.obj 0, .own 44 U0)])]
def Jj [Lk] (self : Uc → Option (Uq)) : Up → Option (Up ⊕ Uq ⊕ Unit) := fun (a0, a1, a2, _) =>
 match (ilt a1 a2) with
 | true => match idx a0 (IntKind.wrap .i64 (a2 - 1)) with
  | none => none
  | some x0 => match idx a0 a2 with
  | none => none
  | some x1 => match idx a0 a2 with
  | none => none
  | some x2 => match idx (An a0 (AM a2) ((AW a0 (AM (IntKind.wrap .i64 (a2 - 1))) (0, (0, (0, (false, ()))))).1, ((AW a0 (AM (IntKind.wrap .i64 (a2 - 1))) (0, (0, (0, (false, ()))))).2.1, ((AW a0 (AM (IntKind.wrap .i64 (a2 - 1))) (0, (0, (0, (false, ()))))).2.2.1, ((AW a0 (AM (IntKind.wrap .i64 (a2 - 1))) (0, (0, (0, (false, ()))))).2.2.2.1, ()))))) (IntKind.wrap .i64 (a2 - 1)) with
  | none => none
  | some x3 => some (.inl ((An (An a0 (AM a2) ((AW a0 (AM (IntKind.wrap .i64 (a2 - 1))) (0, (0, (0, (false, ()))))).1, ((AW a0 (AM (IntKind.wrap .i64 (a2 - 1))) (0, (0, (0, (false, ()))))).2.1, ((AW a0 (AM (IntKind.wrap .i64 (a2 - 1))) (0, (0, (0, (false, ()))))).2.2.1, ((AW a0 (AM (IntKind.wrap .i64 (a2 - 1))) (0, (0, (0, (false, ()))))).2.2.2.1, ()))))) (AM (IntKind.wrap .i64 (a2 - 1))) ((AW a0 (AM a2) (0, (0, (0, (false, ()))))).1, ((AW a0 (AM a2) (0, (0, (0, (false, ()))))).2.1, ((AW a0 (AM a2) (0, (0, (0, (false, ()))))).2.2.1, ((AW a0 (AM a2) (0, (0, (0, (false, ()))))).2.2.2.1, ()))))), a1, (IntKind.wrap .i64 (a2 - 1)), ()))
 | false => some (.inr (.inl (a0, ())))
abbrev AUT : AE := [(.obj 0, .own 44 U0), (.tmp 0, .own' 0), (.tmp 2, .di), (.tmp 4, .clo 73 []), (.tmp 14, .di), (.tmp 15, .di)]
abbrev AUO : Am := [(.exit 4, [(.obj 0, .own 44 U0), (.tmp 0, .own' 0), (.tmp 2, .di), (.tmp 14, .di)])]
def Jk [Lk] (self : Uc → Option (Uq)) : Uc → Option (Uc ⊕ Up ⊕ Unit) := fun (a0, a1, a2, a3, _) =>
 match (ilt a2 a3) with
 | true => match shr? .u64 (IntKind.wrap .u64 (IntKind.wrap .i64 (a2 + a3))) 1 with
  | none => none
  | some x0 => match idx a0 a1 with
  | none => none
  | some x1 => match idx a0 (IntKind.wrap .i64 x0) with
  | none => none
  | some x2 => match By (((AW a0 (AM a1) (0, (0, (0, (false, ()))))).1, ((AW a0 (AM a1) (0, (0, (0, (false, ()))))).2.1, ((AW a0 (AM a1) (0, (0, (0, (false, ()))))).2.2.1, ((AW a0 (AM a1) (0, (0, (0, (false, ()))))).2.2.2.1, ())))), ((AW a0 (AM (IntKind.wrap .i64 x0)) (0, (0, (0, (false, ()))))).1, ((AW a0 (AM (IntKind.wrap .i64 x0)) (0, (0, (0, (false, ()))))).2.1, ((AW a0 (AM (IntKind.wrap .i64 x0)) (0, (0, (0, (false, ()))))).2.2.1, ((AW a0 (AM (IntKind.wrap .i64 x0)) (0, (0, (0, (false, ()))))).2.2.2.1, ())))), ()) with
  | none => none
  | some (y3, _) => match (!(ilt y3 0)) with
  | true => some (.inl (a0, a1, (IntKind.wrap .i64 ((IntKind.wrap .i64 x0) + 1)), a3, ()))
  | false => some (.inl (a0, a1, a2, (IntKind.wrap .i64 x0), ()))
 | false => some (.inr (.inl (a0, a1, a2, ())))
abbrev AUU : AE := [(.obj 0, .own 44 U0), (.tmp 0, .own' 0), (.tmp 10, .di), (.tmp 13, .di)]
abbrev AUP : Am := [(.exit 2, [(.obj 0, .own 44 U0)])]
def Jl [Lk] (self : Uc → Option (Uq)) : Up → Option (Up ⊕ Uq ⊕ Unit) := fun (a0, a1, a2, _) =>
 match (ilt a2 (IntKind.wrap .i64 (a1 - 1))) with
 | true => match idx a0 (IntKind.wrap .i64 (a2 + 1)) with
  | none => none
  | some x0 => match idx a0 a2 with
  | none => none
  | some x1 => match idx a0 a2 with
  | none => none
  | some x2 => match idx (An a0 (AM a2) ((AW a0 (AM (IntKind.wrap .i64 (a2 + 1))) (0, (0, (0, (false, ()))))).1, ((AW a0 (AM (IntKind.wrap .i64 (a2 + 1))) (0, (0, (0, (false, ()))))).2.1, ((AW a0 (AM (IntKind.wrap .i64 (a2 + 1))) (0, (0, (0, (false, ()))))).2.2.1, ((AW a0 (AM (IntKind.wrap .i64 (a2 + 1))) (0, (0, (0, (false, ()))))).2.2.2.1, ()))))) (IntKind.wrap .i64 (a2 + 1)) with
  | none => none
  | some x3 => some (.inl ((An (An a0 (AM a2) ((AW a0 (AM (IntKind.wrap .i64 (a2 + 1))) (0, (0, (0, (false, ()))))).1, ((AW a0 (AM (IntKind.wrap .i64 (a2 + 1))) (0, (0, (0, (false, ()))))).2.1, ((AW a0 (AM (IntKind.wrap .i64 (a2 + 1))) (0, (0, (0, (false, ()))))).2.2.1, ((AW a0 (AM (IntKind.wrap .i64 (a2 + 1))) (0, (0, (0, (false, ()))))).2.2.2.1, ()))))) (AM (IntKind.wrap .i64 (a2 + 1))) ((AW a0 (AM a2) (0, (0, (0, (false, ()))))).1, ((AW a0 (AM a2) (0, (0, (0, (false, ()))))).2.1, ((AW a0 (AM a2) (0, (0, (0, (false, ()))))).2.2.1, ((AW a0 (AM a2) (0, (0, (0, (false, ()))))).2.2.2.1, ()))))), a1, (IntKind.wrap .i64 (a2 + 1)), ()))
 | false => some (.inr (.inl (a0, ())))
abbrev AUV : AE := [(.obj 0, .own 44 U0), (.tmp 0, .own' 0), (.tmp 1, .di), (.tmp 4, .clo 73 []), (.tmp 10, .di), (.tmp 11, .di)]
abbrev AUQ : Am := [(.exit 0, [(.obj 0, .own 44 U0), (.tmp 0, .own' 0), (.tmp 1, .di), (.tmp 10, .di)])]
def Jm [Lk] (self : Uc → Option (Uq)) : Uc → Option (Uc ⊕ Up ⊕ Unit) := fun (a0, a1, a2, a3, _) =>
 match (ilt a2 a3) with
 | true => match shr? .u64 (IntKind.wrap .u64 (IntKind.wrap .i64 (a2 + a3))) 1 with
  | none => none
  | some x0 => match idx a0 (IntKind.wrap .i64 x0) with
  | none => none
  | some x1 => match idx a0 a1 with
  | none => none
  | some x2 => match By (((AW a0 (AM (IntKind.wrap .i64 x0)) (0, (0, (0, (false, ()))))).1, ((AW a0 (AM (IntKind.wrap .i64 x0)) (0, (0, (0, (false, ()))))).2.1, ((AW a0 (AM (IntKind.wrap .i64 x0)) (0, (0, (0, (false, ()))))).2.2.1, ((AW a0 (AM (IntKind.wrap .i64 x0)) (0, (0, (0, (false, ()))))).2.2.2.1, ())))), ((AW a0 (AM a1) (0, (0, (0, (false, ()))))).1, ((AW a0 (AM a1) (0, (0, (0, (false, ()))))).2.1, ((AW a0 (AM a1) (0, (0, (0, (false, ()))))).2.2.1, ((AW a0 (AM a1) (0, (0, (0, (false, ()))))).2.2.2.1, ())))), ()) with
  | none => none
  | some (y3, _) => match (ilt y3 0) with
  | true => some (.inl (a0, a1, (IntKind.wrap .i64 ((IntKind.wrap .i64 x0) + 1)), a3, ()))
  | false => some (.inl (a0, a1, a2, (IntKind.wrap .i64 x0), ()))
 | false => some (.inr (.inl (a0, a1, a2, ())))
def LF [Lk] (self : Uc → Option (Uq)) : Uc → Option (Uq) := fun (a0, a1, a2, a3, _) =>
 match (ieq (IntKind.wrap .i64 (a2 - a1)) 1) with
 | true => match AR (Jm self) many (a0, a1, a2, a3, ()) with
  | none => none
  | some r => match r with
  | .inl (o0, o1, o2, _) => match AR (Jl self) many (o0, o2, o1, ()) with
   | none => none
   | some r => match r with
   | .inl (o3, _) => some (o3, ())
   | .inr _ => none
  | .inr _ => none
 | false => match (ieq (IntKind.wrap .i64 (a3 - a2)) 1) with
 | true => match AR (Jk self) many (a0, a2, a1, a2, ()) with
  | none => none
  | some r => match r with
  | .inl (o4, o5, o6, _) => match AR (Jj self) many (o4, o6, o5, ()) with
   | none => none
   | some r => match r with
   | .inl (o7, _) => some (o7, ())
   | .inr _ => none
  | .inr _ => none
 | false => match shr? .u64 (IntKind.wrap .u64 (IntKind.wrap .i64 (a1 + a3))) 1 with
 | none => none
 | some x8 => match (ilt (IntKind.wrap .i64 x8) a2) with
 | true => match AR (EJ self) many (a0, a1, a2, a3, (IntKind.wrap .i64 x8), (IntKind.wrap .i64 ((IntKind.wrap .i64 x8) + a2)), (IntKind.wrap .i64 ((IntKind.wrap .i64 ((IntKind.wrap .i64 x8) + a2)) - a3)), (IntKind.wrap .i64 x8), (IntKind.wrap .i64 ((IntKind.wrap .i64 ((IntKind.wrap .i64 x8) + a2)) - 1)), ()) with
  | none => none
  | some r => match r with
  | .inl (o9, o10, o11, o12, o13, o14, o15, _) => match (ilt o15 o11) with
   | true => match (ilt o11 (IntKind.wrap .i64 (o14 - o15))) with
    | true => match AQx (o9, o15, o11, (IntKind.wrap .i64 (o14 - o15)), ()) with
     | none => none
     | some (y16, _) => match (ilt o10 o15) with
     | true => match (ilt o15 o13) with
      | true => match self (y16, o10, o15, o13, ()) with
       | none => none
       | some (y17, _) => match (ilt o13 (IntKind.wrap .i64 (o14 - o15))) with
       | true => match (ilt (IntKind.wrap .i64 (o14 - o15)) o12) with
        | true => match self (y17, o13, (IntKind.wrap .i64 (o14 - o15)), o12, ()) with
         | none => none
         | some (y18, _) => some (y18, ())
        | false => some (y17, ())
       | false => some (y17, ())
      | false => match (ilt o13 (IntKind.wrap .i64 (o14 - o15))) with
      | true => match (ilt (IntKind.wrap .i64 (o14 - o15)) o12) with
       | true => match self (y16, o13, (IntKind.wrap .i64 (o14 - o15)), o12, ()) with
        | none => none
        | some (y19, _) => some (y19, ())
       | false => some (y16, ())
      | false => some (y16, ())
     | false => match (ilt o13 (IntKind.wrap .i64 (o14 - o15))) with
     | true => match (ilt (IntKind.wrap .i64 (o14 - o15)) o12) with
      | true => match self (y16, o13, (IntKind.wrap .i64 (o14 - o15)), o12, ()) with
       | none => none
       | some (y20, _) => some (y20, ())
      | false => some (y16, ())
     | false => some (y16, ())
    | false => match (ilt o10 o15) with
    | true => match (ilt o15 o13) with
     | true => match self (o9, o10, o15, o13, ()) with
      | none => none
      | some (y21, _) => match (ilt o13 (IntKind.wrap .i64 (o14 - o15))) with
      | true => match (ilt (IntKind.wrap .i64 (o14 - o15)) o12) with
       | true => match self (y21, o13, (IntKind.wrap .i64 (o14 - o15)), o12, ()) with
        | none => none
        | some (y22, _) => some (y22, ())
       | false => some (y21, ())
      | false => some (y21, ())
     | false => match (ilt o13 (IntKind.wrap .i64 (o14 - o15))) with
     | true => match (ilt (IntKind.wrap .i64 (o14 - o15)) o12) with
      | true => match self (o9, o13, (IntKind.wrap .i64 (o14 - o15)), o12, ()) with
       | none => none
       | some (y23, _) => some (y23, ())
      | false => some (o9, ())
     | false => some (o9, ())
    | false => match (ilt o13 (IntKind.wrap .i64 (o14 - o15))) with
    | true => match (ilt (IntKind.wrap .i64 (o14 - o15)) o12) with
     | true => match self (o9, o13, (IntKind.wrap .i64 (o14 - o15)), o12, ()) with
      | none => none
      | some (y24, _) => some (y24, ())
     | false => some (o9, ())
    | false => some (o9, ())
   | false => match (ilt o10 o15) with
   | true => match (ilt o15 o13) with
    | true => match self (o9, o10, o15, o13, ()) with
     | none => none
     | some (y25, _) => match (ilt o13 (IntKind.wrap .i64 (o14 - o15))) with
     | true => match (ilt (IntKind.wrap .i64 (o14 - o15)) o12) with
      | true => match self (y25, o13, (IntKind.wrap .i64 (o14 - o15)), o12, ()) with
       | none => none
       | some (y26, _) => some (y26, ())
      | false => some (y25, ())
     | false => some (y25, ())
    | false => match (ilt o13 (IntKind.wrap .i64 (o14 - o15))) with
    | true => match (ilt (IntKind.wrap .i64 (o14 - o15)) o12) with
     | true => match self (o9, o13, (IntKind.wrap .i64 (o14 - o15)), o12, ()) with
      | none => none
      | some (y27, _) => some (y27, ())
     | false => some (o9, ())
    | false => some (o9, ())
   | false => match (ilt o13 (IntKind.wrap .i64 (o14 - o15))) with
   | true => match (ilt (IntKind.wrap .i64 (o14 - o15)) o12) with
    | true => match self (o9, o13, (IntKind.wrap .i64 (o14 - o15)), o12, ()) with
     | none => none
     | some (y28, _) => some (y28, ())
    | false => some (o9, ())
   | false => some (o9, ())
  | .inr _ => none
 | false => match AR (EJ self) many (a0, a1, a2, a3, (IntKind.wrap .i64 x8), (IntKind.wrap .i64 ((IntKind.wrap .i64 x8) + a2)), a1, a2, (IntKind.wrap .i64 ((IntKind.wrap .i64 ((IntKind.wrap .i64 x8) + a2)) - 1)), ()) with
 | none => none
 | some r => match r with
 | .inl (o29, o30, o31, o32, o33, o34, o35, _) => match (ilt o35 o31) with
  | true => match (ilt o31 (IntKind.wrap .i64 (o34 - o35))) with
   | true => match AQx (o29, o35, o31, (IntKind.wrap .i64 (o34 - o35)), ()) with
    | none => none
    | some (y36, _) => match (ilt o30 o35) with
    | true => match (ilt o35 o33) with
     | true => match self (y36, o30, o35, o33, ()) with
      | none => none
      | some (y37, _) => match (ilt o33 (IntKind.wrap .i64 (o34 - o35))) with
      | true => match (ilt (IntKind.wrap .i64 (o34 - o35)) o32) with
       | true => match self (y37, o33, (IntKind.wrap .i64 (o34 - o35)), o32, ()) with
        | none => none
        | some (y38, _) => some (y38, ())
       | false => some (y37, ())
      | false => some (y37, ())
     | false => match (ilt o33 (IntKind.wrap .i64 (o34 - o35))) with
     | true => match (ilt (IntKind.wrap .i64 (o34 - o35)) o32) with
      | true => match self (y36, o33, (IntKind.wrap .i64 (o34 - o35)), o32, ()) with
       | none => none
       | some (y39, _) => some (y39, ())
      | false => some (y36, ())
     | false => some (y36, ())
    | false => match (ilt o33 (IntKind.wrap .i64 (o34 - o35))) with
    | true => match (ilt (IntKind.wrap .i64 (o34 - o35)) o32) with
     | true => match self (y36, o33, (IntKind.wrap .i64 (o34 - o35)), o32, ()) with
      | none => none
      | some (y40, _) => some (y40, ())
     | false => some (y36, ())
    | false => some (y36, ())
   | false => match (ilt o30 o35) with
   | true => match (ilt o35 o33) with
    | true => match self (o29, o30, o35, o33, ()) with
     | none => none
     | some (y41, _) => match (ilt o33 (IntKind.wrap .i64 (o34 - o35))) with
     | true => match (ilt (IntKind.wrap .i64 (o34 - o35)) o32) with
      | true => match self (y41, o33, (IntKind.wrap .i64 (o34 - o35)), o32, ()) with
       | none => none
       | some (y42, _) => some (y42, ())
      | false => some (y41, ())
     | false => some (y41, ())
    | false => match (ilt o33 (IntKind.wrap .i64 (o34 - o35))) with
    | true => match (ilt (IntKind.wrap .i64 (o34 - o35)) o32) with
     | true => match self (o29, o33, (IntKind.wrap .i64 (o34 - o35)), o32, ()) with
      | none => none
      | some (y43, _) => some (y43, ())
     | false => some (o29, ())
    | false => some (o29, ())
   | false => match (ilt o33 (IntKind.wrap .i64 (o34 - o35))) with
   | true => match (ilt (IntKind.wrap .i64 (o34 - o35)) o32) with
    | true => match self (o29, o33, (IntKind.wrap .i64 (o34 - o35)), o32, ()) with
     | none => none
     | some (y44, _) => some (y44, ())
    | false => some (o29, ())
   | false => some (o29, ())
  | false => match (ilt o30 o35) with
  | true => match (ilt o35 o33) with
   | true => match self (o29, o30, o35, o33, ()) with
    | none => none
    | some (y45, _) => match (ilt o33 (IntKind.wrap .i64 (o34 - o35))) with
    | true => match (ilt (IntKind.wrap .i64 (o34 - o35)) o32) with
     | true => match self (y45, o33, (IntKind.wrap .i64 (o34 - o35)), o32, ()) with
      | none => none
      | some (y46, _) => some (y46, ())
     | false => some (y45, ())
    | false => some (y45, ())
   | false => match (ilt o33 (IntKind.wrap .i64 (o34 - o35))) with
   | true => match (ilt (IntKind.wrap .i64 (o34 - o35)) o32) with
    | true => match self (o29, o33, (IntKind.wrap .i64 (o34 - o35)), o32, ()) with
     | none => none
     | some (y47, _) => some (y47, ())
    | false => some (o29, ())
   | false => some (o29, ())
  | false => match (ilt o33 (IntKind.wrap .i64 (o34 - o35))) with
  | true => match (ilt (IntKind.wrap .i64 (o34 - o35)) o32) with
   | true => match self (o29, o33, (IntKind.wrap .i64 (o34 - o35)), o32, ()) with
    | none => none
    | some (y48, _) => some (y48, ())
   | false => some (o29, ())
  | false => some (o29, ())
 | .inr _ => none
def G7 [Lk] : Nat → Uc → Option (Uq)
 | 0, _ => none
 | n + 1, v => LF (G7 n) v
def AP9 [Lk] := fun v => Lk.f (G7 100 v)
theorem AUW v : AP9 v = G7 100 v := AK _
end
end Go.Pev
end
section
namespace Go.Pev
set_option maxRecDepth 100000
noncomputable section
attribute [local irreducible] OK KL PS N5 Abq Abr Abs Qm AAQ Zf Ze KS AT many IntKind.wrap AO An AW A8 DD DS JO AM CW Cb imax Af Ak
abbrev AHX : AE := [(.tmp 0, .own 44 U0), (.tmp 1, .di), (.tmp 2, .clo 73 [])]
abbrev AHW : AE := [(.obj 0, .own 44 U0)]
abbrev AHV : List RS := []
abbrev ALv : AE := [(.obj 0, .own 44 U0), (.tmp 0, .own' 0), (.tmp 1, .di), (.tmp 2, .clo 73 []), (.tmp 6, .di), (.tmp 7, .di), (.tmp 8, .di)]
abbrev ALs : Am := [(.exit 4, [(.obj 0, .own 44 U0), (.tmp 0, .own' 0), (.tmp 1, .di), (.tmp 2, .clo 73 []), (.tmp 6, .di), (.tmp 7, .di)])]
def LH [Lk] : Un → Option (Un ⊕ Uc ⊕ Unit) := fun (a0, a1, a2, a3, a4, _) =>
 match (ile a4 a1) with
 | true => match AP9 (a0, a3, (IntKind.wrap .i64 (a3 + a2)), a4, ()) with
  | none => none
  | some (y0, _) => some (.inl (y0, a1, a2, a4, (IntKind.wrap .i64 (a4 + (IntKind.wrap .i64 (2 * a2)))), ()))
 | false => some (.inr (.inl (a0, a1, a2, a3, ())))
abbrev ALw : AE := [(.obj 0, .own 44 U0), (.tmp 0, .own' 0), (.tmp 1, .di), (.tmp 2, .clo 73 []), (.tmp 6, .di)]
abbrev ALt : Am := [(.exit 2, [(.obj 0, .own 44 U0)])]
def EK [Lk] : Up → Option (Up ⊕ Uq ⊕ Unit) := fun (a0, a1, a2, _) =>
 match (ilt a2 a1) with
 | true => match AR LH many (a0, a1, a2, 0, (IntKind.wrap .i64 (2 * a2)), ()) with
  | none => none
  | some r => match r with
  | .inl (o0, o1, o2, o3, _) => match (ilt (IntKind.wrap .i64 (o3 + o2)) o1) with
   | true => match AP9 (o0, o3, (IntKind.wrap .i64 (o3 + o2)), o1, ()) with
    | none => none
    | some (y4, _) => some (.inl (y4, o1, (IntKind.wrap .i64 (o2 * 2)), ()))
   | false => some (.inl (o0, o1, (IntKind.wrap .i64 (o2 * 2)), ()))
  | .inr _ => none
 | false => some (.inr (.inl (a0, ())))
abbrev ALx : AE := [(.obj 0, .own 44 U0), (.tmp 0, .own' 0), (.tmp 1, .di), (.tmp 2, .clo 73 []), (.tmp 6, .di), (.tmp 7, .di), (.tmp 8, .di)]
abbrev ALu : Am := [(.exit 0, [(.obj 0, .own 44 U0), (.tmp 0, .own' 0), (.tmp 1, .di), (.tmp 2, .clo 73 []), (.tmp 6, .di), (.tmp 7, .di)])]
def HA [Lk] : Un → Option (Un ⊕ Uc ⊕ Unit) := fun (a0, a1, a2, a3, a4, _) =>
 match (ile a4 a1) with
 | true => match AEH (a0, a3, a4, ()) with
  | none => none
  | some (y0, _) => some (.inl (y0, a1, a2, a4, (IntKind.wrap .i64 (a4 + a2)), ()))
 | false => some (.inr (.inl (a0, a1, a2, a3, ())))
def Xn [Lk] : (List U1 × Int × Unit) → Option (Uq) := fun (a0, a1, _) =>
 match AR HA many (a0, a1, 20, 0, 20, ()) with
 | none => none
 | some r => match r with
 | .inl (o0, o1, o2, o3, _) => match AEH (o0, o3, o1, ()) with
  | none => none
  | some (y4, _) => match AR EK many (y4, o1, o2, ()) with
  | none => none
  | some r => match r with
  | .inl (o5, _) => some (o5, ())
  | .inr _ => none
 | .inr _ => none
def AUZ [Lk] := fun v => Lk.f (Xn v)
theorem ALy v : AUZ v = Xn v := AK _
abbrev Y9 : AE := [(.tmp 0, .own 44 U0), (.tmp 1, .clo 73 [])]
abbrev Y8 : AE := [(.obj 0, .own 44 U0)]
abbrev Y7 : List RS := []
def QR [Lk] : Uq → Option (Uq) := fun (a0, _) =>
 match AUZ (a0, (AO a0), ()) with
 | none => none
 | some (y0, _) => some (y0, ())
def ZA [Lk] := fun v => Lk.f (QR v)
theorem AE4 v : ZA v = QR v := AK _
abbrev Y1 : AE := [(.tmp 0, .di), (.tmp 1, .dat Us)]
abbrev Y0 : AE := [(.tmp 0, .own 42 U7), (.tmp 1, .di)]
abbrev Yz : List RS := [.one, .one]
abbrev AE2 : AE := [(.tmp 1, .dat Us), (.tmp 7, .own 42 U7), (.tmp 19, .own 4 .bool), (.tmp 20, .di), (.tmp 21, .di)]
abbrev AE1 : Am := [(.exit 0, [(.tmp 7, .own 42 U7)])]
def D6 [Lk] : (List U4 × List U4 × List Bool × Int × Int × Unit) → Option ((List U4 × List U4 × List Bool × Int × Int × Unit) ⊕ V0 ⊕ Unit) := fun (a0, a1, a2, a3, a4, _) =>
 match (ilt a4 a3) with
 | true => match idx a2 a4 with
  | none => none
  | some x0 => match (AW a2 (AM a4) false) with
  | true => match idx a0 a4 with
   | none => none
   | some x1 => match (fits ((AO a1) + (AO ([(x1.1, (x1.2.1, ()))] : List U4)))) with
   | true => some (.inl (a0, (A8 a1 ([(x1.1, (x1.2.1, ()))] : List U4)), a2, a3, (IntKind.wrap .i64 (a4 + 1)), ()))
   | false => none
  | false => some (.inl (a0, a1, a2, a3, (IntKind.wrap .i64 (a4 + 1)), ()))
 | false => some (.inr (.inl (a1, ())))
def QO [Lk] : V1 → Option ((List U4 × Int × Unit)) := fun (a0, a1, _) =>
 match TJ (a0, a1, ()) with
 | none => none
 | some (y0, _) => match (!(ieq y0 0)) with
 | true => some (([] : List U4), y0, ())
 | false => match TL (a0, ()) with
 | none => none
 | some (y1, _) => match TG (y1, a1, ()) with
 | none => none
 | some (y2, y3, _) => match AR D6 many (a1, ([] : List U4), y3, (AO y3), 0, ()) with
 | none => none
 | some r => match r with
 | .inl (o4, _) => some (o4, 0, ())
 | .inr _ => none
def Y3 [Lk] := fun v => Lk.f (QO v)
theorem AE3 v : Y3 v = QO v := AK _
abbrev ZM : AE := [(.tmp 0, .dat Ub)]
abbrev ZL : AE := [(.tmp 0, .dat .bool)]
abbrev ZK : List RS := [.one]
def LO [Lk] : Uw → Option (Uf) := fun (a0, _) =>
 match H5 ((a0.1, (a0.2.1, ())), 0, ()) with
 | none => none
 | some (y0, y1, _) => match (!(ieq y1 0)) with
 | true => some (false, ())
 | false => match ABj ((a0.1, (a0.2.1, ())), ()) with
 | none => none
 | some (y2, _) => match Zl (a0.1, y2, ()) with
 | none => none
 | some (y3, y4, _) => some ((ieq (AO y0.2.1) y3), ())
def Jx [Lk] := fun v => Lk.f (LO v)
theorem S4 v : Jx v = LO v := AK _
abbrev LW : AE := [(.tmp 0, .dat Ub)]
abbrev LV : AE := [(.tmp 0, .own 52 U9)]
abbrev LU : List RS := [.one]
abbrev QX : AE := [(.tmp 1, .box 2), (.cell 0 0, .di), (.cell 0 1, .dat Uo), (.tmp 3, .own 52 U9), (.tmp 4, .di)]
abbrev QW : Am := [(.ret, [(.tmp 2, .nil U9)]), (.exit 0, [(.tmp 3, .own 52 U9)])]
def Bx [Lk] : (Int × List U1 × List Ua × Int × Unit) → Option ((Int × List U1 × List Ua × Int × Unit) ⊕ (Unit) ⊕ (List Ua × Unit) ⊕ Unit) := fun (a0, a1, a2, a3, _) =>
 match ABM (a0, ()) with
 | none => none
 | some (y0, _) => match (ile a3 y0) with
 | true => match H5 ((a0, (a1, ())), a3, ()) with
  | none => none
  | some (y1, y2, _) => match (!(ieq y2 0)) with
  | true => some (.inr (.inl ()))
  | false => match (fits ((AO a2) + (AO ([(y1.1, (y1.2.1, ()))] : List Ua)))) with
  | true => some (.inl (a0, a1, (A8 a2 ([(y1.1, (y1.2.1, ()))] : List Ua)), (IntKind.wrap .i64 (a3 + 1)), ()))
  | false => none
 | false => some (.inr (.inr (.inl (a2, ()))))
def Fl [Lk] : Uw → Option ((List Ua × Unit)) := fun (a0, _) =>
 match AR Bx many (a0.1, a0.2.1, ([] : List Ua), 0, ()) with
 | none => none
 | some r => match r with
 | .inl _ => some (([] : List Ua), ())
 | .inr r => match r with
 | .inl (o0, _) => some (o0, ())
 | .inr _ => none
def Ep [Lk] := fun v => Lk.f (Fl v)
theorem J0 v : Ep v = Fl v := AK _
abbrev Ij : AE := [(.tmp 0, .dat Uo), (.cap 1 0, .box 1), (.cell 0 0, .dat (.slice U9)), (.tmp 1, .clo 81 [(0, 0)])]
abbrev Ii : AE := [(.obj 0, .box 1), (.cell 0 0, .dat (.slice U9)), (.tmp 0, .di)]
abbrev Ih : List RS := [.one]
abbrev Lz : AE := [(.obj 0, .box 1), (.cell 0 0, .dat (.slice U9)), (.tmp 0, .dat Uo), (.tmp 1, .clo 81 [(0, 0)]), (.tmp 7, .di), (.tmp 8, .di)]
abbrev Ly : Am := [(.ret, [(.obj 0, .box 1), (.cell 0 0, .dat (.slice U9)), (.tmp 4, .di)]), (.exit 0, [(.obj 0, .box 1), (.cell 0 0, .dat (.slice U9))])]
def Bs [Lk] : (List Ua × List U1 × Int × Int × Unit) → Option ((List Ua × List U1 × Int × Int × Unit) ⊕ (List Ua × Int × Unit) ⊕ (List Ua × Unit) ⊕ Unit) := fun (a0, a1, a2, a3, _) =>
 match (ilt a3 a2) with
 | true => match idx a1 a3 with
  | none => none
  | some x0 => match idx a0 x0.2.2.1 with
  | none => none
  | some x1 => match AOf ((x1.1, (x1.2.1, ())), x0.1, x0.2.1, ()) with
  | none => none
  | some (y2, y3, _) => match (!x0.2.2.2.1) with
  | true => match (!y2) with
   | true => some (.inr (.inl (a0, a3, ())))
   | false => some (.inl (a0, a1, a2, (IntKind.wrap .i64 (a3 + 1)), ()))
  | false => some (.inl (a0, a1, a2, (IntKind.wrap .i64 (a3 + 1)), ()))
 | false => some (.inr (.inr (.inl (a0, ()))))
def Fb [Lk] : (List U1 × List Ua × Unit) → Option ((List Ua × Int × Unit)) := fun (a0, a1, _) =>
 match AR Bs many (a1, a0, (AO a0), 0, ()) with
 | none => none
 | some r => match r with
 | .inl (o0, o1, _) => some (o0, o1, ())
 | .inr r => match r with
 | .inl (o2, _) => some (o2, (-1 : Int), ())
 | .inr _ => none
def H6 [Lk] := fun v => Lk.f (Fb v)
theorem L0 v : H6 v = Fb v := AK _
abbrev He : AE := [(.tmp 0, .dat Uo), (.cap 1 0, .box 1), (.cell 0 0, .dat (.slice U9)), (.tmp 1, .clo 81 [(0, 0)])]
abbrev Hd : AE := [(.obj 0, .box 1), (.cell 0 0, .dat (.slice U9)), (.tmp 0, .dat .bool)]
abbrev Hc : List RS := [.one]
def Ea [Lk] : (List U1 × List Ua × Unit) → Option ((List Ua × Bool × Unit)) := fun (a0, a1, _) =>
 match H6 (a0, a1, ()) with
 | none => none
 | some (y0, y1, _) => some (y0, (ile 0 y1), ())
def GZ [Lk] := fun v => Lk.f (Ea v)
theorem K0 v : GZ v = Ea v := AK _
abbrev TA : AE := [(.tmp 0, .dat Ub)]
abbrev S9 : AE := [(.tmp 0, .dat .bool)]
abbrev S8 : List RS := [.one]
def I3 [Lk] : Uw → Option (Uf) := fun (a0, _) =>
 match Ep ((a0.1, (a0.2.1, ())), ()) with
 | none => none
 | some (y0, _) => match (ieq (AO y0) 0) with
 | true => some (false, ())
 | false => match GZ (a0.2.1, y0, ()) with
 | none => none
 | some (y1, y2, _) => some ((!y2), ())
def Hv [Lk] := fun v => Lk.f (I3 v)
theorem On v : Hv v = I3 v := AK _
abbrev LS : AE := [(.tmp 0, .dat Ub)]
abbrev LR : AE := [(.tmp 0, .dat .bool)]
abbrev LQ : List RS := [.one]
abbrev QU : AE := [(.tmp 1, .box 2), (.cell 0 0, .di), (.cell 0 1, .dat Uo), (.tmp 3, .own 52 U9), (.tmp 4, .di), (.tmp 5, .box 2), (.cell 2 0, .di), (.cell 2 1, .dat Uh), (.tmp 11, .own' 1), (.tmp 12, .di), (.tmp 13, .di), (.tmp 19, .di), (.tmp 20, .di)]
abbrev QS : Am := [(.ret, [(.tmp 2, .dat .bool)]), (.exit 2, [(.tmp 1, .box 2), (.cell 0 0, .di), (.cell 0 1, .dat Uo), (.tmp 3, .own 52 U9), (.tmp 11, .own' 1), (.tmp 12, .di), (.tmp 13, .di)])]
def Bw [Lk] : V7 → Option (V7 ⊕ Uf ⊕ V3 ⊕ Unit) := fun (a0, a1, a2, a3, a4, a5, a6, a7, a8, a9, _) =>
 match (ilt a9 a8) with
 | true => match AOY ((a4, (a5, ())), a9, ()) with
  | none => none
  | some (y0, y1, _) => match shr? .i64 a0 (IntKind.wrap .u64 a3) with
  | none => none
  | some x2 => match (ilt (imax 1 x2) y0) with
  | true => some (.inr (.inl (false, ())))
  | false => some (.inl (a0, a1, a2, a3, a4, a5, a6, a7, a8, (IntKind.wrap .i64 (a9 + 1)), ()))
 | false => some (.inr (.inr (.inl (a0, a1, a2, a6, a7, ()))))
abbrev QV : AE := [(.tmp 1, .box 2), (.cell 0 0, .di), (.cell 0 1, .dat Uo), (.tmp 3, .own 52 U9), (.tmp 11, .own' 1), (.tmp 12, .di), (.tmp 13, .di)]
abbrev QT : Am := [(.ret, [(.tmp 2, .dat .bool)]), (.exit 0, [(.tmp 3, .own 52 U9)])]
def Ba [Lk] : V3 → Option (V3 ⊕ Uf ⊕ (List Ua × Unit) ⊕ Unit) := fun (a0, a1, a2, a3, a4, _) =>
 match (ilt a4 a3) with
 | true => match idx a2 a4 with
  | none => none
  | some x0 => match AR Bw many (a0, a1, a2, a4, (AW a2 (AM a4) (0, (([] : List U3), ()))).1, (AW a2 (AM a4) (0, (([] : List U3), ()))).2.1, a3, a4, a0, 0, ()) with
  | none => none
  | some r => match r with
  | .inl (o1, _) => some (.inr (.inl (o1, ())))
  | .inr r => match r with
  | .inl (o2, o3, o4, o5, o6, _) => some (.inl (o2, o3, o4, o5, (IntKind.wrap .i64 (o6 + 1)), ()))
  | .inr _ => none
 | false => some (.inr (.inr (.inl (a2, ()))))
def Fk [Lk] : Uw → Option (Uf) := fun (a0, _) =>
 match Ep ((a0.1, (a0.2.1, ())), ()) with
 | none => none
 | some (y0, _) => match AR Ba many (a0.1, a0.2.1, y0, (AO y0), 0, ()) with
 | none => none
 | some r => match r with
 | .inl (o1, _) => some (o1, ())
 | .inr r => match r with
 | .inl (o2, _) => some ((ilt 0 (AO o2)), ())
 | .inr _ => none
def DJ [Lk] := fun v => Lk.f (Fk v)
theorem Jz v : DJ v = Fk v := AK _
abbrev S7 : AE := [(.tmp 0, .dat Ub)]
abbrev S6 : AE := [(.tmp 0, .dat .bool)]
abbrev S5 : List RS := [.one]
def I2 [Lk] : Uw → Option (Uf) := fun (a0, _) =>
 match Jx ((a0.1, (a0.2.1, ())), ()) with
 | none => none
 | some (y0, _) => match y0 with
 | true => match Hv ((a0.1, (a0.2.1, ())), ()) with
  | none => none
  | some (y1, _) => match y1 with
  | true => match DJ ((a0.1, (a0.2.1, ())), ()) with
   | none => none
   | some (y2, _) => some (y2, ())
  | false => some (false, ())
 | false => some (false, ())
def Jy [Lk] := fun v => Lk.f (I2 v)
theorem Om v : Jy v = I2 v := AK _
abbrev ZH : AE := [(.tmp 0, .dat Ub), (.tmp 1, .clo 85 [])]
abbrev ZG : AE := [(.tmp 0, .di)]
abbrev ZF : List RS := [.one]
abbrev AE8 : AE := [(.tmp 1, .clo 85 []), (.tmp 4, .di), (.tmp 11, .dat Uo), (.tmp 12, .di), (.tmp 13, .di)]
abbrev AE7 : Am := [(.exit 0, [(.tmp 4, .di)])]
def Eo [Lk] : Uk → Option (Uk ⊕ U8 ⊕ Unit) := fun (a0, a1, a2, a3, _) =>
 match (ilt a3 a2) with
 | true => match idx a1 a3 with
  | none => none
  | some x0 => some (.inl ((IntKind.wrap .i64 (a0 + x0.2.2.1)), a1, a2, (IntKind.wrap .i64 (a3 + 1)), ()))
 | false => some (.inr (.inl (a0, ())))
def LN [Lk] : Uw → Option (U8) := fun (a0, _) =>
 match CE ((a0.1, (a0.2.1, ())), ()) with
 | none => none
 | some (y0, _) => match (!y0) with
 | true => some (0, ())
 | false => match AR Eo many (0, a0.2.1, (AO a0.2.1), 0, ()) with
 | none => none
 | some r => match r with
 | .inl (o1, _) => some (o1, ())
 | .inr _ => none
def AHm [Lk] := fun v => Lk.f (LN v)
theorem S3 v : AHm v = LN v := AK _
abbrev Ot : AE := [(.tmp 0, .dat Ub)]
abbrev Oq : AE := [(.tmp 0, .di)]
abbrev Oo : List RS := [.one]
def HG [Lk] : Uw → Option (U8) := fun (a0, _) =>
 match AHm ((a0.1, (a0.2.1, ())), ()) with
 | none => none
 | some (y0, _) => some (y0, ())
def HH [Lk] := fun v => Lk.f (HG v)
theorem LP v : HH v = HG v := AK _
abbrev ZD : AE := [(.tmp 0, .dat Ub), (.tmp 1, .clo 86 [])]
abbrev ZC : AE := [(.tmp 0, .di)]
abbrev ZB : List RS := [.one]
abbrev AE6 : AE := [(.tmp 1, .clo 86 []), (.tmp 4, .di), (.tmp 11, .dat Uo), (.tmp 12, .di), (.tmp 13, .di)]
abbrev AE5 : Am := [(.exit 0, [(.tmp 4, .di)])]
def En [Lk] : Uk → Option (Uk ⊕ U8 ⊕ Unit) := fun (a0, a1, a2, a3, _) =>
 match (ilt a3 a2) with
 | true => match idx a1 a3 with
  | none => none
  | some x0 => match x0.2.2.2.1 with
  | true => some (.inl ((IntKind.wrap .i64 (a0 + x0.2.2.1)), a1, a2, (IntKind.wrap .i64 (a3 + 1)), ()))
  | false => some (.inl (a0, a1, a2, (IntKind.wrap .i64 (a3 + 1)), ()))
 | false => some (.inr (.inl (a0, ())))
def LM [Lk] : Uw → Option (U8) := fun (a0, _) =>
 match CE ((a0.1, (a0.2.1, ())), ()) with
 | none => none
 | some (y0, _) => match (!y0) with
 | true => some (0, ())
 | false => match AR En many (0, a0.2.1, (AO a0.2.1), 0, ()) with
 | none => none
 | some r => match r with
 | .inl (o1, _) => some (o1, ())
 | .inr _ => none
def AHk [Lk] := fun v => Lk.f (LM v)
theorem S2 v : AHk v = LM v := AK _
abbrev Ol : AE := [(.tmp 0, .dat Ub)]
abbrev Oj : AE := [(.tmp 0, .di)]
abbrev Oi : List RS := [.one]
def HF [Lk] : Uw → Option (U8) := fun (a0, _) =>
 match AHk ((a0.1, (a0.2.1, ())), ()) with
 | none => none
 | some (y0, _) => some (y0, ())
def Fi [Lk] := fun v => Lk.f (HF v)
theorem LL v : Fi v = HF v := AK _
abbrev ZS : AE := [(.tmp 0, .dat Ub)]
abbrev ZR : AE := [(.tmp 0, .own 42 U7), (.tmp 1, .di)]
abbrev ZQ : List RS := [.one, .one]
abbrev AFA : AE := [(.tmp 1, .box 2), (.cell 0 0, .di), (.cell 0 1, .dat Uo), (.tmp 5, .own 42 U7), (.tmp 16, .own 44 U0), (.tmp 17, .di), (.tmp 18, .di)]
abbrev AE9 : Am := [(.exit 0, [(.tmp 1, .box 2), (.cell 0 0, .di), (.cell 0 1, .dat Uo), (.tmp 5, .own 42 U7)])]
def DK [Lk] : (Int × List U1 × List U4 × List U1 × Int × Int × Unit) → Option ((Int × List U1 × List U4 × List U1 × Int × Int × Unit) ⊕ (Int × List U1 × List U4 × Unit) ⊕ Unit) := fun (a0, a1, a2, a3, a4, a5, _) =>
 match (ilt a5 a4) with
 | true => match idx a3 a5 with
  | none => none
  | some x0 => match (fits ((AO a2) + (AO ([((AW a3 (AM a5) (0, (0, (0, (false, ()))))).1, ((AW a3 (AM a5) (0, (0, (0, (false, ()))))).2.1, ()))] : List U4)))) with
  | true => some (.inl (a0, a1, (A8 a2 ([((AW a3 (AM a5) (0, (0, (0, (false, ()))))).1, ((AW a3 (AM a5) (0, (0, (0, (false, ()))))).2.1, ()))] : List U4)), a3, a4, (IntKind.wrap .i64 (a5 + 1)), ()))
  | false => none
 | false => some (.inr (.inl (a0, a1, a2, ())))
def LY [Lk] : Uw → Option ((List U4 × Int × Unit)) := fun (a0, _) =>
 match CE ((a0.1, (a0.2.1, ())), ()) with
 | none => none
 | some (y0, _) => match (!y0) with
 | true => some (([] : List U4), 1, ())
 | false => match AKC a0.2.1 with
 | none => none
 | some x1 => match ZA (x1, ()) with
 | none => none
 | some (y2, _) => match AR DK many (a0.1, a0.2.1, ([] : List U4), y2, (AO y2), 0, ()) with
 | none => none
 | some r => match r with
 | .inl (o3, o4, o5, _) => match Y3 (o3, o5, ()) with
  | none => none
  | some (y6, y7, _) => some (y6, y7, ())
 | .inr _ => none
def LZ [Lk] := fun v => Lk.f (LY v)
theorem TB v : LZ v = LY v := AK _
abbrev Jv : AE := [(.tmp 0, .di), (.tmp 1, .dat Us)]
abbrev Ju : AE := [(.tmp 0, .own 42 U7), (.tmp 1, .di)]
abbrev Jt : List RS := [.one, .one]
abbrev N8 : AE := [(.tmp 1, .dat Us), (.tmp 8, .own 4 .bool), (.tmp 9, .own 42 U7), (.tmp 10, .di)]
abbrev N7 : Am := [(.exit 0, [(.tmp 9, .own 42 U7)])]
def Bq [Lk] : (List U4 × List Bool × List U4 × Int × Unit) → Option ((List U4 × List Bool × List U4 × Int × Unit) ⊕ V0 ⊕ Unit) := fun (a0, a1, a2, a3, _) =>
 match (ilt a3 (AO a0)) with
 | true => match idx a1 a3 with
  | none => none
  | some x0 => match (AW a1 (AM a3) false) with
  | true => match idx a0 a3 with
   | none => none
   | some x1 => match (fits ((AO a2) + (AO ([(x1.1, (x1.2.1, ()))] : List U4)))) with
   | true => some (.inl (a0, a1, (A8 a2 ([(x1.1, (x1.2.1, ()))] : List U4)), (IntKind.wrap .i64 (a3 + 1)), ()))
   | false => none
  | false => some (.inl (a0, a1, a2, (IntKind.wrap .i64 (a3 + 1)), ()))
 | false => some (.inr (.inl (a2, ())))
def GS [Lk] : V1 → Option ((List U4 × Int × Unit)) := fun (a0, a1, _) =>
 match ABF (a0, ()) with
 | none => none
 | some (y0, y1, y2, _) => match (!(ieq y2 0)) with
 | true => some (([] : List U4), y2, ())
 | false => match MS ((y0, (y1, ())), a1, ()) with
 | none => none
 | some (y3, y4, _) => match (!(ieq y4 0)) with
 | true => some (([] : List U4), y4, ())
 | false => match AR Bq many (a1, y3, ([] : List U4), 0, ()) with
 | none => none
 | some r => match r with
 | .inl (o5, _) => some (o5, 0, ())
 | .inr _ => none
def HB [Lk] := fun v => Lk.f (GS v)
theorem N9 v : HB v = GS v := AK _
abbrev Js : AE := [(.tmp 0, .dat Ub)]
abbrev Jr : AE := [(.tmp 0, .dat .bool)]
abbrev Jq : List RS := [.one]
def EM [Lk] : Uw → Option (Uf) := fun (a0, _) =>
 match BW ((a0.1, (a0.2.1, ())), ()) with
 | none => none
 | some (y0, _) => match y0 with
 | true => match Rb ((a0.1, (a0.2.1, ())), ()) with
  | none => none
  | some (y1, _) => match Cl (a0.1, y1, ()) with
  | none => none
  | some (y2, _) => match Jg ((a0.1, (a0.2.1, ())), 0, ()) with
  | none => none
  | some (y3, _) => match Cl (a0.1, y3, ()) with
  | none => none
  | some (y4, _) => match UL (y2, y4, ()) with
  | none => none
  | some (y5, _) => some (y5, ())
 | false => some (false, ())
def Dn [Lk] := fun v => Lk.f (EM v)
theorem IY v : Dn v = EM v := AK _
abbrev T3 : AE := [(.tmp 0, .dat Ub)]
abbrev T2 : AE := [(.tmp 0, .dat .bool)]
abbrev T1 : List RS := [.one]
abbrev ABH : AE := [(.tmp 1, .box 2), (.cell 0 0, .di), (.cell 0 1, .dat Uo), (.tmp 3, .di)]
abbrev ABG : Am := [(.ret, [(.tmp 2, .dat .bool)]), (.exit 0, [])]
def Dt [Lk] : (Int × List U1 × Int × Unit) → Option ((Int × List U1 × Int × Unit) ⊕ Uf ⊕ (Unit) ⊕ Unit) := fun (a0, a1, a2, _) =>
 match (ilt a2 (AO a1)) with
 | true => match idx a1 a2 with
  | none => none
  | some x0 => match Jg ((a0, (a1, ())), x0.2.2.1, ()) with
  | none => none
  | some (y1, _) => match Cl (a0, y1, ()) with
  | none => none
  | some (y2, _) => match (!x0.2.2.2.1) with
  | true => match idx y2 x0.1 with
   | none => none
   | some x3 => match idx y2 x0.2.1 with
   | none => none
   | some x4 => match (!(ieq (AW y2 (AM x0.1) 0) (AW y2 (AM x0.2.1) 0))) with
   | true => some (.inr (.inl (false, ())))
   | false => some (.inl (a0, a1, (IntKind.wrap .i64 (a2 + 1)), ()))
  | false => some (.inl (a0, a1, (IntKind.wrap .i64 (a2 + 1)), ()))
 | false => some (.inr (.inr (.inl ())))
def JA [Lk] : Uw → Option (Uf) := fun (a0, _) =>
 match BW ((a0.1, (a0.2.1, ())), ()) with
 | none => none
 | some (y0, _) => match (!y0) with
 | true => some (false, ())
 | false => match AR Dt many (a0.1, a0.2.1, 0, ()) with
 | none => none
 | some r => match r with
 | .inl (o1, _) => some (o1, ())
 | .inr r => match r with
 | .inl _ => some (true, ())
 | .inr _ => none
def KF [Lk] := fun v => Lk.f (JA v)
theorem PB v : KF v = JA v := AK _
abbrev L9 : AE := [(.tmp 0, .dat Ub)]
abbrev L8 : AE := [(.tmp 0, .dat .bool)]
abbrev L7 : List RS := [.one]
abbrev RP : AE := [(.tmp 1, .box 2), (.cell 0 0, .di), (.cell 0 1, .dat Uo), (.tmp 3, .di), (.tmp 4, .di), (.tmp 5, .own 3 U2), (.tmp 6, .di), (.tmp 7, .di), (.tmp 8, .di)]
abbrev RM : Am := [(.exit 4, [(.tmp 1, .box 2), (.cell 0 0, .di), (.cell 0 1, .dat Uo), (.tmp 3, .di), (.tmp 4, .di), (.tmp 5, .own 3 U2), (.tmp 6, .di), (.tmp 7, .di)])]
def B2 [Lk] : (Int × List U1 × Int × Int × List Int × Int × Int × Int × Unit) → Option ((Int × List U1 × Int × Int × List Int × Int × Int × Int × Unit) ⊕ (Int × List U1 × Int × Int × List Int × Int × Int × Unit) ⊕ Unit) := fun (a0, a1, a2, a3, a4, a5, a6, a7, _) =>
 match (ilt a7 a0) with
 | true => match idx a4 a7 with
  | none => none
  | some x0 => match (ieq (AW a4 (AM a7) 0) a5) with
  | true => some (.inl (a0, a1, a2, a3, a4, a5, (IntKind.wrap .i64 (a6 + 1)), (IntKind.wrap .i64 (a7 + 1)), ()))
  | false => some (.inl (a0, a1, a2, a3, a4, a5, a6, (IntKind.wrap .i64 (a7 + 1)), ()))
 | false => some (.inr (.inl (a0, a1, a2, a3, a4, a5, a6, ())))
abbrev RQ : AE := [(.tmp 1, .box 2), (.cell 0 0, .di), (.cell 0 1, .dat Uo), (.tmp 3, .di), (.tmp 4, .di), (.tmp 5, .own 3 U2), (.tmp 6, .di)]
abbrev RN : Am := [(.ret, [(.tmp 2, .dat .bool)]), (.exit 2, [(.tmp 1, .box 2), (.cell 0 0, .di), (.cell 0 1, .dat Uo), (.tmp 3, .di), (.tmp 4, .di)])]
def B4 [Lk] : (Int × List U1 × Int × Int × List Int × Int × Unit) → Option ((Int × List U1 × Int × Int × List Int × Int × Unit) ⊕ Uf ⊕ Uk ⊕ Unit) := fun (a0, a1, a2, a3, a4, a5, _) =>
 match (ilt a5 a0) with
 | true => match AR B2 many (a0, a1, a2, a3, a4, a5, 0, 0, ()) with
  | none => none
  | some r => match r with
  | .inl (o0, o1, o2, o3, o4, o5, o6, _) => match (ilt (imax 1 o2) o6) with
   | true => some (.inr (.inl (false, ())))
   | false => some (.inl (o0, o1, o2, o3, o4, (IntKind.wrap .i64 (o5 + 1)), ()))
  | .inr _ => none
 | false => some (.inr (.inr (.inl (a0, a1, a2, a3, ()))))
abbrev RR : AE := [(.tmp 1, .box 2), (.cell 0 0, .di), (.cell 0 1, .dat Uo), (.tmp 3, .di), (.tmp 4, .di)]
abbrev RO : Am := [(.ret, [(.tmp 2, .dat .bool)]), (.exit 0, [])]
def CV [Lk] : Uk → Option (Uk ⊕ Uf ⊕ (Unit) ⊕ Unit) := fun (a0, a1, a2, a3, _) =>
 match Kt (a0, ()) with
 | none => none
 | some (y0, _) => match (ile a3 y0) with
 | true => match Jg ((a0, (a1, ())), a3, ()) with
  | none => none
  | some (y1, _) => match Cl (a0, y1, ()) with
  | none => none
  | some (y2, _) => match AR B4 many (a0, a1, a2, a3, y2, 0, ()) with
  | none => none
  | some r => match r with
  | .inl (o3, _) => some (.inr (.inl (o3, ())))
  | .inr r => match r with
  | .inl (o4, o5, o6, o7, _) => match quo? .i64 o6 2 with
   | none => none
   | some x8 => some (.inl (o4, o5, x8, (IntKind.wrap .i64 (o7 + 1)), ()))
  | .inr _ => none
 | false => some (.inr (.inr (.inl ())))
def Fx [Lk] : Uw → Option (Uf) := fun (a0, _) =>
 match BW ((a0.1, (a0.2.1, ())), ()) with
 | none => none
 | some (y0, _) => match (!y0) with
 | true => some (false, ())
 | false => match AR CV many (a0.1, a0.2.1, a0.1, 0, ()) with
 | none => none
 | some r => match r with
 | .inl (o1, _) => some (o1, ())
 | .inr r => match r with
 | .inl _ => some (true, ())
 | .inr _ => none
def FH [Lk] := fun v => Lk.f (Fx v)
theorem KK v : FH v = Fx v := AK _
abbrev S1 : AE := [(.tmp 0, .dat Ub)]
abbrev S0 : AE := [(.tmp 0, .dat .bool)]
abbrev Sy : List RS := [.one]
def I1 [Lk] : Uw → Option (Uf) := fun (a0, _) =>
 match Dn ((a0.1, (a0.2.1, ())), ()) with
 | none => none
 | some (y0, _) => match y0 with
 | true => match KF ((a0.1, (a0.2.1, ())), ()) with
  | none => none
  | some (y1, _) => match y1 with
  | true => match FH ((a0.1, (a0.2.1, ())), ()) with
   | none => none
   | some (y2, _) => some (y2, ())
  | false => some (false, ())
 | false => some (false, ())
def NB [Lk] := fun v => Lk.f (I1 v)
theorem Og v : NB v = I1 v := AK _
abbrev PG : AE := [(.tmp 0, .dat Ub)]
abbrev PF : AE := [(.tmp 0, .di)]
abbrev PE : List RS := [.one]
abbrev Wa : AE := [(.tmp 1, .box 2), (.cell 0 0, .di), (.cell 0 1, .dat Uo), (.tmp 3, .di), (.tmp 4, .di)]
abbrev WZ : Am := [(.exit 0, [(.tmp 3, .di)])]
def C7 [Lk] : Uk → Option (Uk ⊕ U8 ⊕ Unit) := fun (a0, a1, a2, a3, _) =>
 match (ilt a3 (AO a1)) with
 | true => match idx a1 a3 with
  | none => none
  | some x0 => some (.inl (a0, a1, (IntKind.wrap .i64 (a2 + x0.2.2.1)), (IntKind.wrap .i64 (a3 + 1)), ()))
 | false => some (.inr (.inl (a2, ())))
def HS [Lk] : Uw → Option (U8) := fun (a0, _) =>
 match BW ((a0.1, (a0.2.1, ())), ()) with
 | none => none
 | some (y0, _) => match (!y0) with
 | true => some (0, ())
 | false => match AR C7 many (a0.1, a0.2.1, 0, 0, ()) with
 | none => none
 | some r => match r with
 | .inl (o1, _) => some (o1, ())
 | .inr _ => none
def JE [Lk] := fun v => Lk.f (HS v)
theorem Lv v : JE v = HS v := AK _
abbrev OV : AE := [(.tmp 0, .dat Ub)]
abbrev OU : AE := [(.tmp 0, .di)]
abbrev OT : List RS := [.one]
abbrev Vq : AE := [(.tmp 1, .box 2), (.cell 0 0, .di), (.cell 0 1, .dat Uo), (.tmp 3, .di), (.tmp 4, .di)]
abbrev Vp : Am := [(.exit 0, [(.tmp 3, .di)])]
def Ct [Lk] : Uk → Option (Uk ⊕ U8 ⊕ Unit) := fun (a0, a1, a2, a3, _) =>
 match (ilt a3 (AO a1)) with
 | true => match idx a1 a3 with
  | none => none
  | some x0 => match x0.2.2.2.1 with
  | true => match idx a1 a3 with
   | none => none
   | some x1 => some (.inl (a0, a1, (IntKind.wrap .i64 (a2 + x1.2.2.1)), (IntKind.wrap .i64 (a3 + 1)), ()))
  | false => some (.inl (a0, a1, a2, (IntKind.wrap .i64 (a3 + 1)), ()))
 | false => some (.inr (.inl (a2, ())))
def Gw [Lk] : Uw → Option (U8) := fun (a0, _) =>
 match BW ((a0.1, (a0.2.1, ())), ()) with
 | none => none
 | some (y0, _) => match (!y0) with
 | true => some (0, ())
 | false => match AR Ct many (a0.1, a0.2.1, 0, 0, ()) with
 | none => none
 | some r => match r with
 | .inl (o1, _) => some (o1, ())
 | .inr _ => none
def Iy [Lk] := fun v => Lk.f (Gw v)
theorem LB v : Iy v = Gw v := AK _
abbrev ACq : AE := [(.tmp 0, .dat Ub)]
abbrev ACp : AE := [(.tmp 0, .own 42 U7), (.tmp 1, .di)]
abbrev ACo : List RS := [.one, .one]
abbrev AGQ : AE := [(.tmp 1, .box 2), (.cell 0 0, .di), (.cell 0 1, .dat Uo), (.tmp 4, .own 42 U7), (.tmp 5, .di), (.tmp 6, .di)]
abbrev AGO : Am := [(.exit 2, [(.tmp 1, .box 2), (.cell 0 0, .di), (.cell 0 1, .dat Uo), (.tmp 4, .own 42 U7), (.tmp 5, .di)])]
def ED [Lk] : (Int × List U1 × List U4 × Int × Int × Unit) → Option ((Int × List U1 × List U4 × Int × Int × Unit) ⊕ Ur ⊕ Unit) := fun (a0, a1, a2, a3, a4, _) =>
 match (ilt a4 (AO a1)) with
 | true => match idx a1 a4 with
  | none => none
  | some x0 => match (ieq x0.2.2.1 a3) with
  | true => match idx a1 a4 with
   | none => none
   | some x1 => match idx a1 a4 with
   | none => none
   | some x2 => match (fits ((AO a2) + (AO ([(x1.1, (x2.2.1, ()))] : List U4)))) with
   | true => some (.inl (a0, a1, (A8 a2 ([(x1.1, (x2.2.1, ()))] : List U4)), a3, (IntKind.wrap .i64 (a4 + 1)), ()))
   | false => none
  | false => some (.inl (a0, a1, a2, a3, (IntKind.wrap .i64 (a4 + 1)), ()))
 | false => some (.inr (.inl (a0, a1, a2, a3, ())))
abbrev AGR : AE := [(.tmp 1, .box 2), (.cell 0 0, .di), (.cell 0 1, .dat Uo), (.tmp 4, .own 42 U7), (.tmp 5, .di)]
abbrev AGP : Am := [(.exit 0, [(.tmp 1, .box 2), (.cell 0 0, .di), (.cell 0 1, .dat Uo), (.tmp 4, .own 42 U7)])]
def Gq [Lk] : Ur → Option (Ur ⊕ (Int × List U1 × List U4 × Unit) ⊕ Unit) := fun (a0, a1, a2, a3, _) =>
 match (ile 0 a3) with
 | true => match AR ED many (a0, a1, a2, a3, 0, ()) with
  | none => none
  | some r => match r with
  | .inl (o0, o1, o2, o3, _) => some (.inl (o0, o1, o2, (IntKind.wrap .i64 (o3 - 1)), ()))
  | .inr _ => none
 | false => some (.inr (.inl (a0, a1, a2, ())))
def MV [Lk] : Uw → Option ((List U4 × Int × Unit)) := fun (a0, _) =>
 match BW ((a0.1, (a0.2.1, ())), ()) with
 | none => none
 | some (y0, _) => match (!y0) with
 | true => some (([] : List U4), 1, ())
 | false => match Kt (a0.1, ()) with
 | none => none
 | some (y1, _) => match AR Gq many (a0.1, a0.2.1, ([] : List U4), y1, ()) with
 | none => none
 | some r => match r with
 | .inl (o2, o3, o4, _) => match HB (o2, o4, ()) with
  | none => none
  | some (y5, y6, _) => some (y5, y6, ())
 | .inr _ => none
def VP [Lk] := fun v => Lk.f (MV v)
theorem VO v : VP v = MV v := AK _
abbrev VS : AE := []
abbrev VR : AE := [(.tmp 0, .dat .bool)]
abbrev VQ : List RS := [.one]
def VT [Lk] : (Unit) → Option (Uf) := fun _ =>
 match LZ ((4, (([(0, (1, (0, (true, ())))), (0, (2, (0, (true, ())))), (1, (2, (1, (false, ()))))] : List U1), ())), ()) with
 | none => none
 | some (y0, y1, _) => match LZ ((0, (([] : List U1), ())), ()) with
 | none => none
 | some (y2, y3, _) => match (ieq y1 0) with
 | true => match (ieq y3 1) with
  | true => match Jy ((4, (([(0, (1, (1, (true, ())))), (0, (2, (0, (true, ())))), (1, (2, (0, (false, ()))))] : List U1), ())), ()) with
   | none => none
   | some (y4, _) => match y4 with
   | true => match Hv ((4, (([(0, (1, (0, (true, ())))), (0, (2, (0, (true, ())))), (1, (2, (1, (false, ()))))] : List U1), ())), ()) with
    | none => none
    | some (y5, _) => match (!y5) with
    | true => match Jx ((4, (([(0, (1, (0, (true, ())))), (0, (2, (0, (true, ())))), (1, (2, (1, (false, ()))))] : List U1), ())), ()) with
     | none => none
     | some (y6, _) => match y6 with
     | true => match Jx ((4, (([(0, (1, (0, (false, ()))))] : List U1), ())), ()) with
      | none => none
      | some (y7, _) => match (!y7) with
      | true => match DJ ((4, (([(0, (1, (0, (false, ()))))] : List U1), ())), ()) with
       | none => none
       | some (y8, _) => match y8 with
       | true => match DJ ((3, (([(0, (1, (1, (true, ()))))] : List U1), ())), ()) with
        | none => none
        | some (y9, _) => match (!y9) with
        | true => match HH ((4, (([(0, (1, (0, (true, ())))), (0, (2, (0, (true, ())))), (1, (2, (1, (false, ()))))] : List U1), ())), ()) with
         | none => none
         | some (y10, _) => match (ieq y10 1) with
         | true => match Fi ((4, (([(0, (1, (0, (true, ())))), (0, (2, (0, (true, ())))), (1, (2, (1, (false, ()))))] : List U1), ())), ()) with
          | none => none
          | some (y11, _) => match (ieq y11 0) with
          | true => match Fi ((4, (([(0, (1, (1, (true, ())))), (0, (2, (0, (true, ())))), (1, (2, (0, (false, ()))))] : List U1), ())), ()) with
           | none => none
           | some (y12, _) => match (ieq y12 1) with
           | true => match TK (y0, ([(1, (2, ())), (0, (1, ()))] : List U4), ()) with
            | none => none
            | some (y13, _) => some (y13, ())
           | false => some (false, ())
          | false => some (false, ())
         | false => some (false, ())
        | false => some (false, ())
       | false => some (false, ())
      | false => some (false, ())
     | false => some (false, ())
    | false => some (false, ())
   | false => some (false, ())
  | false => some (false, ())
 | false => some (false, ())
def IN [Lk] := fun v => Lk.f (VT v)
theorem AT0 v : IN v = VT v := AK _
abbrev UT : AE := [(.tmp 0, .dat Ub)]
abbrev US : AE := [(.tmp 0, .dat .bool)]
abbrev UR : List RS := [.one]
def Na [Lk] : Uw → Option (Uf) := fun (a0, _) =>
 match (ilt 30 (AO a0.2.1)) with
 | true => some (true, ())
 | false => some ((ilt 12 a0.1), ())
def Nb [Lk] := fun v => Lk.f (Na v)
theorem AB8 v : Nb v = Na v := AK _
abbrev HE : AE := [(.tmp 0, .dat Ub)]
abbrev HD : AE := [(.tmp 0, .dat .bool)]
abbrev HC : List RS := [.one]
def EN [Lk] : Uw → Option (Uf) := fun (a0, _) =>
 match IN () with
 | none => none
 | some (y0, _) => match (!y0) with
 | true => some (false, ())
 | false => match Nb ((a0.1, (a0.2.1, ())), ()) with
 | none => none
 | some (y1, _) => match y1 with
 | true => some (true, ())
 | false => match LZ ((a0.1, (a0.2.1, ())), ()) with
 | none => none
 | some (y2, y3, _) => match VP ((a0.1, (a0.2.1, ())), ()) with
 | none => none
 | some (y4, y5, _) => match TK (y2, y4, ()) with
 | none => none
 | some (y6, _) => match y6 with
 | true => match (ieq y3 y5) with
  | true => match Jx ((a0.1, (a0.2.1, ())), ()) with
   | none => none
   | some (y7, _) => match Dn ((a0.1, (a0.2.1, ())), ()) with
   | none => none
   | some (y8, _) => match (y7 == y8) with
   | true => match Hv ((a0.1, (a0.2.1, ())), ()) with
    | none => none
    | some (y9, _) => match KF ((a0.1, (a0.2.1, ())), ()) with
    | none => none
    | some (y10, _) => match (y9 == y10) with
    | true => match DJ ((a0.1, (a0.2.1, ())), ()) with
     | none => none
     | some (y11, _) => match FH ((a0.1, (a0.2.1, ())), ()) with
     | none => none
     | some (y12, _) => match (y11 == y12) with
     | true => match Jy ((a0.1, (a0.2.1, ())), ()) with
      | none => none
      | some (y13, _) => match NB ((a0.1, (a0.2.1, ())), ()) with
      | none => none
      | some (y14, _) => match (y13 == y14) with
      | true => match HH ((a0.1, (a0.2.1, ())), ()) with
       | none => none
       | some (y15, _) => match JE ((a0.1, (a0.2.1, ())), ()) with
       | none => none
       | some (y16, _) => match (ieq y15 y16) with
       | true => match Fi ((a0.1, (a0.2.1, ())), ()) with
        | none => none
        | some (y17, _) => match Iy ((a0.1, (a0.2.1, ())), ()) with
        | none => none
        | some (y18, _) => some ((ieq y17 y18), ())
       | false => some (false, ())
      | false => some (false, ())
     | false => some (false, ())
    | false => some (false, ())
   | false => some (false, ())
  | false => some (false, ())
 | false => some (false, ())
def DI [Lk] := fun v => Lk.f (EN v)
theorem Kv v : DI v = EN v := AK _
end
end Go.Pev
end
section
namespace Go.Pev
set_option maxRecDepth 100000
noncomputable section
attribute [local irreducible] OK KL PS N5 Abq Abr Abs Qm AAQ Zf Ze KS AT many IntKind.wrap AO An AW A8 DD DS JO AM CW Cb imax Af Ak
end
end Go.Pev
end
section

end
section
namespace Go.Pev.Pl
theorem Ad {n : Int} (h : -9223372036854775808 ≤ n ∧ n ≤ 9223372036854775807) : IntKind.wrap .i64 n = n := IntWalk.i64_in n h
theorem AYD {σ ρ : Type} {step : σ → Option (σ ⊕ ρ)} (I : σ → Prop) (Q : ρ → Prop) (m : σ → Nat)
  (h : ∀ v, I v → (∃ v', step v = some (.inl v') ∧ I v' ∧ m v' < m v) ∨ (∃ r, step v = some (.inr r) ∧ Q r)) :
  ∀ n v, I v → m v < n → ∃ r, AT step n v = some r ∧ Q r := by
 intro n
 induction n with
 | zero => intro v _ hn; omega
 | succ n ih =>
  intro v hv hn
  rcases h v hv with ⟨v', e, hi, hm⟩ | ⟨r, e, hq⟩
  ·rw [AT, e]
   exact ih v' hi (by omega)
  ·rw [AT, e]
   exact ⟨r, rfl, hq⟩
theorem ASh {σ ρ : Type} {step : σ → Option (σ ⊕ ρ)} (I : σ → Prop) (Q : ρ → Prop) (m : σ → Nat)
  (h : ∀ v, I v → (∃ v', step v = some (.inl v') ∧ I v' ∧ m v' < m v) ∨ (∃ r, step v = some (.inr r) ∧ Q r))
  (v : σ) (hi : I v) (hm : m v < many) : ∃ r, AR step many v = some r ∧ Q r := by
 rw [Ae]
 exact AYD I Q m h many v hi hm
section
set_option linter.unusedSectionVars false
variable {α : Type} [Inhabited α]
theorem Av {d : Array α} {n : Nat} (h : n < d.size) : idx d.toList (n : Int) = some d[n]! := by
 rw [idx_eq, PS, if_neg (by omega)]
 simp [h]
theorem BP {d : Array α} {n : Nat} {z : α} (h : n < d.size) : AW d.toList (AM (n : Int)) z = d[n]! := by
 simp [AW, AM, h]
theorem II {d : Array α} {n : Nat} {x : α} : An d.toList (AM (n : Int)) x = (d.setIfInBounds n x).toList := by
 simp [An, AM]
theorem AVe {d : Array α} : AO d.toList = (d.size : Int) := by simp [AO]
theorem I0 (d : Array α) (i j : Nat) : (d.setIfInBounds i d[j]!).setIfInBounds j d[i]! = Go.Sort.swp d i j := rfl
theorem size_swp (d : Array α) (i j : Nat) : (Go.Sort.swp d i j).size = d.size := by simp [Go.Sort.swp]
end
theorem AJ (a b : Nat) : ilt (a : Int) (b : Int) = decide (a < b) := by rw [Aj]; simp
theorem CU (a b : Nat) : ile (a : Int) (b : Int) = decide (a ≤ b) := by rw [Al]; simp
theorem X1 (a b : Nat) : ieq (a : Int) (b : Int) = decide (a = b) := by
 rw [HT]
 by_cases h : a = b
 ·simp [h]
 ·simp [h]; omega
section
theorem wrap_add {a b : Nat} (h : a + b < 9223372036854775808) : IntKind.wrap .i64 ((a : Int) + (b : Int)) = ((a + b : Nat) : Int) := by rw [Ad (by omega)]; omega
theorem AN {a : Nat} (h : a + 1 < 9223372036854775808) : IntKind.wrap .i64 ((a : Int) + 1) = ((a + 1 : Nat) : Int) := by rw [Ad (by omega)]; omega
theorem AVw {a : Nat} (h : 2 * a < 9223372036854775808) : IntKind.wrap .i64 ((2 : Int) * (a : Int)) = ((2 * a : Nat) : Int) := by rw [Ad (by omega)]; omega
theorem AVv {a : Nat} (h : a < 9223372036854775808) : IntKind.wrap .i64 ((a : Int) * 1) = ((a * 1 : Nat) : Int) := by rw [Ad (by omega)]; omega
theorem Mz {a : Nat} (h : a * 2 < 9223372036854775808) : IntKind.wrap .i64 ((a : Int) * 2) = ((a * 2 : Nat) : Int) := by rw [Ad (by omega)]; omega
theorem AVu {a : Nat} (h : a * 3 < 9223372036854775808) : IntKind.wrap .i64 ((a : Int) * 3) = ((a * 3 : Nat) : Int) := by rw [Ad (by omega)]; omega
theorem BA {a b : Nat} (h : b ≤ a ∧ a < 9223372036854775808) : IntKind.wrap .i64 ((a : Int) - (b : Int)) = ((a - b : Nat) : Int) := by rw [Ad (by omega)]; omega
theorem Aq {a : Nat} (h : 1 ≤ a ∧ a < 9223372036854775808) : IntKind.wrap .i64 ((a : Int) - 1) = ((a - 1 : Nat) : Int) := by rw [Ad (by omega)]; omega
theorem Aeq {a : Nat} (h : a < 9223372036854775808) : quo? .i64 (a : Int) 2 = some ((a / 2 : Nat) : Int) := by
 rw [O3, Qm, if_neg (by omega), Int.tdiv_eq_ediv_of_nonneg (by omega), Ad (by omega)]; rfl
theorem AUl {a : Nat} (h : a < 9223372036854775808) : quo? .i64 (a : Int) 4 = some ((a / 4 : Nat) : Int) := by
 rw [O3, Qm, if_neg (by omega), Int.tdiv_eq_ediv_of_nonneg (by omega), Ad (by omega)]; rfl
theorem Afd {a : Nat} (h : a < 9223372036854775808) : quo? .i64 (a : Int) 8 = some ((a / 8 : Nat) : Int) := by
 rw [O3, Qm, if_neg (by omega), Int.tdiv_eq_ediv_of_nonneg (by omega), Ad (by omega)]; rfl
end
end Go.Pev.Pl
end
section
namespace Go.Pev.Pl
section
variable {α : Type}
theorem B1 {xs : List α} {n : Nat} (z : α) (h : n < xs.length) : idx xs (n : Int) = some (xs.getD n z) := by
 rw [idx_eq, PS, if_neg (by omega)]
 simp [h]
theorem AJV (xs : List α) (n : Nat) : idx xs (n : Int) = xs[n]? := by
 rw [idx_eq, PS, if_neg (by omega)]
 simp
theorem Fw (xs : List α) : idx xs (0 : Int) = xs.head? := by
 rw [idx_eq, PS, if_neg (by omega)]
 cases xs <;> rfl
theorem FJ (xs : List α) (n : Nat) (z : α) : AW xs (AM (n : Int)) z = xs.getD n z := by simp [AW, AM]
theorem Pk (xs : List α) (n : Nat) (x : α) : An xs (AM (n : Int)) x = xs.set n x := by simp [An, AM]
theorem AL (xs : List α) : AO xs = (xs.length : Int) := rfl
theorem VC (n : Nat) : AM (n : Int) = n := by simp [AM]
theorem Bj (xs ys : List α) : A8 xs ys = xs ++ ys := rfl
theorem AHS {xs : List α} {l h : Nat} (h1 : l ≤ h) (h2 : h ≤ xs.length) : DY xs (l : Int) (h : Int) = some ((xs.take h).drop l) := by
 rw [Xm, N5, if_pos (by omega)]
 simp
end
theorem BG {n : Int} (h : n ≤ 4294967296) : fits n = true := (MD n).2 h
theorem ATe {α : Type} {xs : List α} (h : xs.length ≤ 4294967296) : AKC xs = some xs := by
 rw [AGK, KS, (UU _).2 (by rw [AL]; omega)]
theorem AB3 {α β : Type} (xs : List α) (ys : List β) : ieq (AO xs) (AO ys) = decide (xs.length = ys.length) := by rw [AL, AL, X1]
theorem Ah (a b : Int) : ieq a b = decide (a = b) := by
 rw [HT]
 by_cases h : a = b <;> simp [h]
def walk {α β ρ : Type} (f : β → α → α ⊕ ρ) (fin : α → ρ) : List β → α → ρ
 | [], a => fin a
 | x :: xs, a => match f x a with
  | .inl a => walk f fin xs a
  | .inr r => r
theorem AVy {σ ρ α β : Type} {step : σ → Option (σ ⊕ ρ)} (st : Nat → α → σ) (xs : List β) (f : β → α → α ⊕ ρ) (fin : α → ρ) (I : Nat → α → Prop)
  (h : ∀ i x a, i < xs.length → xs[i]? = some x → I i a → (∀ a', f x a = .inl a' → step (st i a) = some (.inl (st (i + 1) a')) ∧ I (i + 1) a') ∧ (∀ r, f x a = .inr r → step (st i a) = some (.inr r)))
  (hN : ∀ a, I xs.length a → step (st xs.length a) = some (.inr (fin a))) :
  ∀ (m i n : Nat) (a : α), xs.length - i = m → i ≤ xs.length → m < n → I i a → AT step n (st i a) = some (walk f fin (xs.drop i) a) := by
 intro m
 induction m with
 | zero =>
  intro i n a hk hi hn hI
  obtain ⟨n, rfl⟩ : ∃ k, n = k + 1 := ⟨n - 1, by omega⟩
  have e : i = xs.length := by omega
  subst e
  rw [AT, hN a hI, List.drop_length]
  rfl
 | succ m ih =>
  intro i n a hk hi hn hI
  obtain ⟨n, rfl⟩ : ∃ k, n = k + 1 := ⟨n - 1, by omega⟩
  have hi' : i < xs.length := by omega
  obtain ⟨g1, g2⟩ := h i xs[i] a hi' (by simp [hi']) hI
  rw [List.drop_eq_getElem_cons hi', walk, AT]
  cases hf : f xs[i] a with
  | inl a' =>
   obtain ⟨e, hI'⟩ := g1 a' hf
   rw [e]
   exact ih (i + 1) n a' (by omega) (by omega) (by omega) hI'
  | inr r => rw [g2 r hf]
theorem Bu {σ ρ α β : Type} {step : σ → Option (σ ⊕ ρ)} (st : Nat → α → σ) (xs : List β) (f : β → α → α ⊕ ρ) (fin : α → ρ) (I : Nat → α → Prop) (hs : xs.length < 9223372036854775808)
  (h : ∀ i x a, i < xs.length → xs[i]? = some x → I i a → (∀ a', f x a = .inl a' → step (st i a) = some (.inl (st (i + 1) a')) ∧ I (i + 1) a') ∧ (∀ r, f x a = .inr r → step (st i a) = some (.inr r)))
  (hN : ∀ a, I xs.length a → step (st xs.length a) = some (.inr (fin a))) (a : α) (h0 : I 0 a) : AR step many (st 0 a) = some (walk f fin xs a) := by
 have hm : 9223372036854775808 < many := by simp only [many]; omega
 rw [Ae, AVy st xs f fin I h hN xs.length 0 many a (by omega) (by omega) (by omega) h0]
 rfl
theorem KM {α : Type} {xs ys : List α} (z : α) (hl : xs.length = ys.length) (h : ∀ j, j < xs.length → xs.getD j z = ys.getD j z) : xs = ys := by
 apply List.ext_getElem hl
 intro i h1 h2
 have := h i h1
 simpa [h1, h2] using this
theorem WV {α : Type} {xs ys : List α} (z : α) {j : Nat} (h : xs.getD j z ≠ ys.getD j z) : xs ≠ ys := fun e => h (by rw [e])
theorem AWv {σ ρ : Type} {step : σ → Option (σ ⊕ ρ)} (st : Nat → σ) (N : Nat) (P : Nat → Bool) (rt : Nat → ρ) (rf : ρ)
  (h : ∀ i, i < N → step (st i) = if P i then some (.inr (rt i)) else some (.inl (st (i + 1)))) (hN : step (st N) = some (.inr rf)) :
  ∀ (m i n : Nat), N - i = m → i ≤ N → m < n → (∃ k, i ≤ k ∧ k < N ∧ P k = true ∧ (∀ j, i ≤ j → j < k → P j = false) ∧ AT step n (st i) = some (rt k)) ∨ ((∀ j, i ≤ j → j < N → P j = false) ∧ AT step n (st i) = some rf) := by
 intro m
 induction m with
 | zero =>
  intro i n hk hi hn
  obtain ⟨n, rfl⟩ : ∃ k, n = k + 1 := ⟨n - 1, by omega⟩
  have e : i = N := by omega
  subst e
  exact .inr ⟨fun j h1 h2 => by omega, by rw [AT, hN]⟩
 | succ m ih =>
  intro i n hk hi hn
  obtain ⟨n, rfl⟩ : ∃ k, n = k + 1 := ⟨n - 1, by omega⟩
  have hi' : i < N := by omega
  cases hP : P i
  ·have e : AT step (n + 1) (st i) = AT step n (st (i + 1)) := by rw [AT, h i hi', hP]; rfl
   rw [e]
   rcases ih (i + 1) n (by omega) (by omega) (by omega) with ⟨k, h1, h2, h3, h4, h5⟩ | ⟨h1, h2⟩
   ·refine .inl ⟨k, by omega, h2, h3, fun j a1 a2 => ?_, h5⟩
    by_cases ej : j = i
    ·subst ej; exact hP
    ·exact h4 j (by omega) a2
   ·refine .inr ⟨fun j a1 a2 => ?_, h2⟩
    by_cases ej : j = i
    ·subst ej; exact hP
    ·exact h1 j (by omega) a2
  ·exact .inl ⟨i, Nat.le_refl _, hi', hP, fun j a1 a2 => by omega, by rw [AT, h i hi', hP]; rfl⟩
theorem AUc {σ ρ : Type} {step : σ → Option (σ ⊕ ρ)} (st : Nat → σ) (N : Nat) (P : Nat → Bool) (rt : Nat → ρ) (rf : ρ) (hs : N < 9223372036854775808)
  (h : ∀ i, i < N → step (st i) = if P i then some (.inr (rt i)) else some (.inl (st (i + 1)))) (hN : step (st N) = some (.inr rf)) :
  (∃ k, k < N ∧ P k = true ∧ (∀ j, j < k → P j = false) ∧ AR step many (st 0) = some (rt k)) ∨ ((∀ j, j < N → P j = false) ∧ AR step many (st 0) = some rf) := by
 have hm : 9223372036854775808 < many := by simp only [many]; omega
 rw [Ae]
 rcases AWv st N P rt rf h hN N 0 many rfl (by omega) (by omega) with ⟨k, h1, h2, h3, h4, h5⟩ | ⟨h1, h2⟩
 ·exact .inl ⟨k, h2, h3, fun j a => h4 j (by omega) a, h5⟩
 ·exact .inr ⟨fun j a => h1 j (by omega) a, h2⟩
end Go.Pev.Pl
end
section
namespace Go.Pev.Pl
inductive Tok where
 | ver (v : Int)
 | arc (u v : Int)
 deriving DecidableEq
namespace Tok
def st : Tok → Int
 | .ver v => v
 | .arc _ v => v
def step (s : List Int × List Int) : Tok → Option (List Int × List Int)
 | .ver v => match s.1 with
  | w :: _ => if w = v then some s else none
  | [] => none
 | .arc u v => match s.1 with
  | w :: r => if w = u then match r with
    | p :: r' => if p = v then some (p :: r', s.2) else if v ∈ s.2 then none else some (v :: w :: r, v :: s.2)
    | [] => if v ∈ s.2 then none else some (v :: w :: r, v :: s.2)
   else none
  | [] => none
def run : List Int × List Int → List Tok → Option (List Int × List Int)
 | s, [] => some s
 | s, t :: l => match step s t with
  | some s => run s l
  | none => none
theorem Cz (s : List Int × List Int) (a b : List Tok) : run s (a ++ b) = (run s a).bind fun s => run s b := by
 induction a generalizing s with
 | nil => rfl
 | cons t a ih =>
  simp only [List.cons_append, run]
  cases step s t with
  | none => rfl
  | some s => exact ih s
theorem Bf {s s' : List Int × List Int} {t : Tok} (h : step s t = some s') :
  (∃ v r, t = .ver v ∧ s.1 = v :: r ∧ s' = s) ∨
  (∃ u v r, t = .arc u v ∧ s.1 = u :: v :: r ∧ s' = (v :: r, s.2)) ∨
  (∃ u v r, t = .arc u v ∧ s.1 = u :: r ∧ r.head? ≠ some v ∧ v ∉ s.2 ∧ s' = (v :: u :: r, v :: s.2)) := by
 obtain ⟨way, c⟩ := s
 cases t with
 | ver v =>
  cases way with
  | nil => simp [step] at h
  | cons w r =>
   simp only [step] at h
   split at h
   ·rename_i e; cases h; exact .inl ⟨v, r, rfl, by simp [e], rfl⟩
   ·cases h
 | arc u v =>
  cases way with
  | nil => simp [step] at h
  | cons w r =>
   simp only [step] at h
   split at h
   ·rename_i e
    subst e
    cases r with
    | nil =>
     simp only at h
     split at h
     ·cases h
     ·rename_i hc; cases h; exact .inr (.inr ⟨w, v, [], rfl, rfl, by simp, hc, rfl⟩)
    | cons p r =>
     simp only at h
     split at h
     ·rename_i e; subst e; cases h; exact .inr (.inl ⟨w, p, r, rfl, rfl, rfl⟩)
     ·split at h
      ·cases h
      ·rename_i e hc; cases h; exact .inr (.inr ⟨w, v, p :: r, rfl, rfl, by simpa using e, hc, rfl⟩)
   ·cases h
theorem Cw (v : Int) (r c : List Int) : step (v :: r, c) (.ver v) = some (v :: r, c) := by simp [step]
theorem Fh (u v : Int) (r c : List Int) : step (u :: v :: r, c) (.arc u v) = some (v :: r, c) := by simp [step]
theorem Em (u v : Int) (r c : List Int) (h1 : r.head? ≠ some v) (h2 : v ∉ c) : step (u :: r, c) (.arc u v) = some (v :: u :: r, v :: c) := by
 cases r with
 | nil => simp [step, h2]
 | cons p r =>
  have : p ≠ v := by simpa using h1
  simp [step, h2, this]
def Inv (s : List Int × List Int) : Prop := s.1.Nodup ∧ (∀ x ∈ s.1, x ∈ s.2)
theorem Yu {s s' : List Int × List Int} {t : Tok} (h : step s t = some s') (hi : Inv s) : Inv s' ∧ (∀ x ∈ s.2, x ∈ s'.2) ∧ s'.1.head? = some t.st := by
 obtain ⟨way, c⟩ := s
 obtain ⟨h1, h2⟩ := hi
 rcases Bf h with ⟨v, r, rfl, hw, rfl⟩ | ⟨u, v, r, rfl, hw, rfl⟩ | ⟨u, v, r, rfl, hw, _, hn, rfl⟩
 ·exact ⟨⟨h1, h2⟩, fun x hx => hx, by rw [hw]; rfl⟩
 ·simp only at hw h1 h2
  subst hw
  refine ⟨⟨?_, ?_⟩, fun x hx => hx, rfl⟩
  ·exact (List.nodup_cons.1 h1).2
  ·intro x hx; exact h2 x (by simp only at hx; simp [List.mem_cons.1 hx])
 ·simp only at hw h1 h2 hn
  subst hw
  refine ⟨⟨?_, ?_⟩, fun x hx => by simp [hx], rfl⟩
  ·exact List.nodup_cons.2 ⟨fun hm => hn (h2 _ hm), h1⟩
  ·intro x hx
   rcases List.mem_cons.1 hx with rfl | hx
   ·simp
   ·exact List.mem_cons_of_mem _ (h2 x hx)
theorem Hw {l : List Tok} : ∀ {s s' : List Int × List Int}, run s l = some s' → Inv s → Inv s' ∧ (∀ x ∈ s.2, x ∈ s'.2) ∧ ∀ t, l.getLast? = some t → s'.1.head? = some t.st := by
 induction l with
 | nil => intro s s' h hi; cases h; exact ⟨hi, fun x hx => hx, fun t ht => by simp at ht⟩
 | cons t l ih =>
  intro s s' h hi
  simp only [run] at h
  split at h
  ·rename_i s1 h1
   obtain ⟨q1, q2, q3⟩ := Yu h1 hi
   obtain ⟨p1, p2, p3⟩ := ih h q1
   refine ⟨p1, fun x hx => p2 x (q2 x hx), fun t' ht' => ?_⟩
   cases l with
   | nil => simp at ht'; subst ht'; simp only [run] at h; cases h; exact q3
   | cons y l => exact p3 t' (by rw [List.getLast?_cons_cons] at ht'; exact ht')
  ·cases h
theorem Gk {Z : Int → Prop} : ∀ {l : List Tok} {way way' c d c2 low : List Int}, run (way, c) l = some (way', d) → way ≠ [] → (∀ x, x ∈ c2 ↔ x ∈ c ∨ Z x) →
  (∀ u v, .arc u v ∈ l → ¬ Z v) → (∀ y ∈ low, Z y) → ∃ d2, run (way ++ low, c2) l = some (way' ++ low, d2) ∧ (∀ x, x ∈ d2 ↔ x ∈ d ∨ Z x) := by
 intro l
 induction l with
 | nil => intro way way' c d c2 low h _ hc _ _; cases h; exact ⟨c2, rfl, hc⟩
 | cons t l ih =>
  intro way way' c d c2 low h hne hc hz hl
  simp only [run] at h
  split at h
  ·rename_i s1 h1
   have hz' : ∀ u v, Tok.arc u v ∈ l → ¬ Z v := fun u v hm => hz u v (List.mem_cons_of_mem _ hm)
   rcases Bf h1 with ⟨v, r, rfl, hw, rfl⟩ | ⟨u, v, r, rfl, hw, rfl⟩ | ⟨u, v, r, rfl, hw, hh, hn, rfl⟩
   ·simp only at hw
    subst hw
    obtain ⟨d2, e1, e2⟩ := ih h hne hc hz' hl
    exact ⟨d2, by simp only [run, List.cons_append, Cw]; exact e1, e2⟩
   ·simp only at hw
    subst hw
    obtain ⟨d2, e1, e2⟩ := ih h (by simp) hc hz' hl
    exact ⟨d2, by simp only [run, List.cons_append, Fh]; exact e1, e2⟩
   ·simp only at hw hn
    subst hw
    have hzv := hz u v (by simp)
    have hn2 : v ∉ c2 := by rw [hc]; rintro (h | h); exact hn h; exact hzv h
    have hh2 : (r ++ low).head? ≠ some v := by
     cases r with
     | nil =>
      cases low with
      | nil => simp
      | cons y low =>
       simp only [List.nil_append, List.head?_cons, ne_eq, Option.some.injEq]
       rintro rfl
       exact hzv (hl _ (by simp))
     | cons p r => simpa using hh
    obtain ⟨d2, e1, e2⟩ := ih (c2 := v :: c2) h (by simp) (by intro x; simp only [List.mem_cons, hc, or_assoc]) hz' hl
    exact ⟨d2, by simp only [run, List.cons_append, Em _ _ _ _ hh2 hn2]; exact e1, e2⟩
  ·cases h
theorem Z2 {z : Int} : ∀ {l : List Tok} {way way' c2 d2 c : List Int}, run (way, c2) l = some (way', d2) → z ∉ way → (∀ x, x ∈ c2 ↔ x ∈ c ∨ x = z) → z ∉ c →
  .ver z ∉ l ∧ ∃ d, run (way, c) l = some (way', d) ∧ (∀ x, x ∈ d2 ↔ x ∈ d ∨ x = z) ∧ z ∉ d := by
 intro l
 induction l with
 | nil => intro way way' c2 d2 c h _ hc hz; cases h; exact ⟨by simp, c, rfl, hc, hz⟩
 | cons t l ih =>
  intro way way' c2 d2 c h hzw hc hz
  simp only [run] at h
  split at h
  ·rename_i s1 h1
   rcases Bf h1 with ⟨v, r, rfl, hw, rfl⟩ | ⟨u, v, r, rfl, hw, rfl⟩ | ⟨u, v, r, rfl, hw, hh, hn, rfl⟩
   ·simp only at hw
    subst hw
    obtain ⟨e0, d, e1, e2, e3⟩ := ih h hzw hc hz
    refine ⟨?_, d, by simp only [run, Cw]; exact e1, e2, e3⟩
    rintro hm
    rcases List.mem_cons.1 hm with hm | hm
    ·cases hm; exact hzw (by simp)
    ·exact e0 hm
   ·simp only at hw
    subst hw
    obtain ⟨e0, d, e1, e2, e3⟩ := ih h (fun hm => hzw (List.mem_cons_of_mem _ hm)) hc hz
    refine ⟨?_, d, by simp only [run, Fh]; exact e1, e2, e3⟩
    rintro hm
    rcases List.mem_cons.1 hm with hm | hm
    ·cases hm
    ·exact e0 hm
   ·simp only at hw hn
    subst hw
    have hvz : v ≠ z := by rintro rfl; exact hn ((hc v).2 (.inr rfl))
    have hn' : v ∉ c := fun hm => hn ((hc v).2 (.inl hm))
    obtain ⟨e0, d, e1, e2, e3⟩ := ih (c := v :: c) h (by intro hm; rcases List.mem_cons.1 hm with hm | hm; exact hvz hm.symm; exact hzw hm)
     (by intro x; simp only [List.mem_cons, hc, or_assoc])
     (by intro hm; rcases List.mem_cons.1 hm with hm | hm; exact hvz hm.symm; exact hz hm)
    refine ⟨?_, d, by simp only [run, Em _ _ _ _ hh hn']; exact e1, e2, e3⟩
    rintro hm
    rcases List.mem_cons.1 hm with hm | hm
    ·cases hm
    ·exact e0 hm
  ·cases h
def Rot (a b : List Tok) : Prop := ∃ x y, a = x ++ y ∧ b = y ++ x
theorem Rot.refl (a : List Tok) : Rot a a := ⟨[], a, rfl, by simp⟩
theorem Rot.symm {a b : List Tok} (h : Rot a b) : Rot b a := by obtain ⟨x, y, h1, h2⟩ := h; exact ⟨y, x, h2, h1⟩
theorem Rot.trans {a b c : List Tok} (h : Rot a b) (g : Rot b c) : Rot a c := by
 obtain ⟨x, y, rfl, h2⟩ := h
 obtain ⟨z, w, h3, rfl⟩ := g
 rw [h2] at h3
 rcases List.append_eq_append_iff.1 h3 with ⟨k, h4, h5⟩ | ⟨k, h4, h5⟩
 ·subst h4 h5
  exact ⟨k, w ++ y, by simp, by simp⟩
 ·subst h4 h5
  exact ⟨x ++ z, k, by simp, by simp⟩
theorem Rot.perm {a b : List Tok} (h : Rot a b) : a.Perm b := by
 obtain ⟨x, y, rfl, rfl⟩ := h
 exact List.perm_append_comm
theorem Rot.mem {a b : List Tok} (h : Rot a b) (t : Tok) : t ∈ a ↔ t ∈ b := h.perm.mem_iff
theorem Rot.nodup {a b : List Tok} (h : Rot a b) : a.Nodup ↔ b.Nodup := h.perm.nodup_iff
theorem Rot.length {a b : List Tok} (h : Rot a b) : a.length = b.length := h.perm.length_eq
inductive T : List Tok → Prop
 | one (v : Int) : T [.ver v]
 | add (x : Tok) (l : List Tok) (v : Int) : T (x :: l) → x.st ≠ v → .ver v ∉ x :: l → T (x :: .arc x.st v :: .ver v :: .arc v x.st :: l)
 | rot (a b : List Tok) : T (a ++ b) → T (b ++ a)
theorem T.ARz {a b : List Tok} (h : T a) (r : Rot a b) : T b := by obtain ⟨x, y, rfl, rfl⟩ := r; exact T.rot x y h
theorem T.facts {l : List Tok} (h : T l) : l ≠ [] ∧ (∀ t ∈ l, .ver t.st ∈ l) ∧ (∀ u v, .arc u v ∈ l → .ver u ∈ l ∧ .ver v ∈ l ∧ .arc v u ∈ l ∧ u ≠ v) := by
 induction h with
 | one v => exact ⟨by simp, by simp [st], by simp⟩
 | add x l v h hne hv ih =>
  obtain ⟨_, i2, i3⟩ := ih
  have hsub : ∀ t, t ∈ x :: l → t ∈ x :: Tok.arc x.st v :: .ver v :: .arc v x.st :: l := by
   intro t ht
   rcases List.mem_cons.1 ht with rfl | ht
   ·simp
   ·simp [ht]
  have hx := hsub _ (i2 x (by simp))
  have cases3 : ∀ t, t ∈ x :: Tok.arc x.st v :: .ver v :: .arc v x.st :: l → t ∈ x :: l ∨ t = .arc x.st v ∨ t = .ver v ∨ t = .arc v x.st := by
   intro t ht
   simp only [List.mem_cons] at ht ⊢
   rcases ht with h | h | h | h | h <;> simp [h]
  refine ⟨by simp, fun t ht => ?_, fun a b hab => ?_⟩
  ·rcases cases3 t ht with h | rfl | rfl | rfl
   ·exact hsub _ (i2 t h)
   ·simp [st]
   ·simp [st]
   ·exact hx
  ·rcases cases3 _ hab with h | h | h | h
   ·obtain ⟨p1, p2, p3, p4⟩ := i3 a b h
    exact ⟨hsub _ p1, hsub _ p2, hsub _ p3, p4⟩
   ·cases h; exact ⟨hx, by simp, by simp, hne⟩
   ·cases h
   ·cases h; exact ⟨by simp, hx, by simp, Ne.symm hne⟩
 | rot a b h ih =>
  obtain ⟨i1, i2, i3⟩ := ih
  have hm : ∀ t, t ∈ a ++ b ↔ t ∈ b ++ a := fun t => List.perm_append_comm.mem_iff
  refine ⟨by intro e; simp only [List.append_eq_nil_iff] at e; exact i1 (by simp [e.1, e.2]), fun t ht => (hm _).1 (i2 t ((hm _).2 ht)), fun u v huv => ?_⟩
  obtain ⟨p1, p2, p3, p4⟩ := i3 u v ((hm _).2 huv)
  exact ⟨(hm _).1 p1, (hm _).1 p2, (hm _).1 p3, p4⟩
theorem T.nodup {l : List Tok} (h : T l) : l.Nodup := by
 induction h with
 | one v => simp
 | add x l v h hne hv ih =>
  obtain ⟨_, _, f3⟩ := h.facts
  have h1 : Tok.arc x.st v ∉ x :: l := fun hm => hv (f3 _ _ hm).2.1
  have h2 : Tok.arc v x.st ∉ x :: l := fun hm => hv (f3 _ _ hm).1
  simp only [List.mem_cons, not_or] at h1 h2 hv
  have ih' := List.nodup_cons.1 ih
  simp only [List.nodup_cons, List.mem_cons, not_or]
  refine ⟨⟨fun e => h1.1 e.symm, fun e => hv.1 e.symm, fun e => h2.1 e.symm, ih'.1⟩, ⟨by simp, ?_, h1.2⟩, ⟨by simp, hv.2⟩, h2.2, ih'.2⟩
  intro e
  simp only [Tok.arc.injEq] at e
  exact hne e.1
 | rot a b h ih => exact (List.perm_append_comm.nodup_iff).1 ih
def C (l : List Tok) : Prop := ∀ r, Rot l r → ∀ t, r.getLast? = some t → ∃ c, run ([t.st], [t.st]) r = some ([t.st], c) ∧ ∀ x, x ∈ c ↔ .ver x ∈ l
end Tok
end Go.Pev.Pl
end
section
namespace Go.Pev.Pl.Tok
theorem getLast?_app {a b : List Tok} {t : Tok} (h : b.getLast? = some t) : (a ++ b).getLast? = some t := by
 rw [List.getLast?_append, h]; rfl
theorem Ao (s : List Int × List Int) (t : Tok) (l : List Tok) : run s (t :: l) = (step s t).bind fun s => run s l := by
 rw [run]
 cases step s t <;> rfl
theorem Nm (v : Int) : Inv ([v], [v]) := ⟨by simp, by simp⟩
theorem T.toC {l : List Tok} (h : T l) : C l := by
 induction h with
 | one v =>
  intro r hr t ht
  have : r = [.ver v] := List.perm_singleton.1 hr.perm.symm
  subst this
  simp at ht
  subst ht
  exact ⟨[v], by simp [run, st, step], by simp⟩
 | rot a b h ih =>
  intro r hr t ht
  obtain ⟨c, h1, h2⟩ := ih r (Rot.trans ⟨a, b, rfl, rfl⟩ hr) t ht
  exact ⟨c, h1, fun x => (h2 x).trans (List.perm_append_comm.mem_iff)⟩
 | add x l v h hne hv ih =>
  obtain ⟨_, f2, f3⟩ := h.facts
  have hnz : ∀ u w, Tok.arc u w ∈ x :: l → ¬ (w = v) := fun u w hm e => hv (e ▸ (f3 u w hm).2.1)
  have fin : ∀ {d2 c : List Int}, (∀ y, y ∈ d2 ↔ y ∈ c ∨ y = v) → (∀ y, y ∈ c ↔ .ver y ∈ x :: l) → ∀ y, y ∈ d2 ↔ Tok.ver y ∈ x :: .arc x.st v :: .ver v :: .arc v x.st :: l := by
   intro d2 c e1 e2 y
   rw [e1, e2]
   simp only [List.mem_cons, reduceCtorEq, false_or, Tok.ver.injEq]
   constructor
   ·rintro ((h | h) | h) <;> simp [h]
   ·rintro (h | h | h) <;> simp [h]
  have triple : ∀ {w' c1 : List Int}, Inv (x.st :: w', c1) → v ∉ c1 → ∀ p, run (x.st :: w', c1) (.arc x.st v :: .ver v :: .arc v x.st :: p) = run (x.st :: w', v :: c1) p := by
   intro w' c1 hi hn p
   have hh : w'.head? ≠ some v := by
    intro e
    exact hn (hi.2 v (List.mem_cons_of_mem _ (List.mem_of_head? e)))
   rw [Ao, Em _ _ _ _ hh hn, Option.bind_some, Ao, Cw, Option.bind_some, Ao, Fh, Option.bind_some]
  have G : ∀ q1 p1, l = p1 ++ q1 → ∀ t, (q1 ++ x :: .arc x.st v :: .ver v :: .arc v x.st :: p1).getLast? = some t → ∃ c, run ([t.st], [t.st]) (q1 ++ x :: .arc x.st v :: .ver v :: .arc v x.st :: p1) = some ([t.st], c) ∧ ∀ y, y ∈ c ↔ .ver y ∈ x :: .arc x.st v :: .ver v :: .arc v x.st :: l := by
   intro q1 p1 hl t ht
   have hrot : Rot (x :: l) (q1 ++ x :: p1) := ⟨x :: p1, q1, by simp [hl], rfl⟩
   have ht0 : ∃ t0, (q1 ++ x :: p1).getLast? = some t0 ∧ t0.st = t.st := by
    cases p1 with
    | nil =>
     refine ⟨x, getLast?_app (by simp), ?_⟩
     rw [show q1 ++ [x, Tok.arc x.st v, .ver v, .arc v x.st] = (q1 ++ [x, Tok.arc x.st v, .ver v]) ++ [Tok.arc v x.st] by simp, List.getLast?_concat] at ht
     cases ht; rfl
    | cons y p1 =>
     refine ⟨t, ?_, rfl⟩
     rw [show q1 ++ x :: Tok.arc x.st v :: .ver v :: .arc v x.st :: y :: p1 = (q1 ++ [x, Tok.arc x.st v, .ver v, .arc v x.st]) ++ y :: p1 by simp, List.getLast?_append] at ht
     rw [show q1 ++ x :: y :: p1 = (q1 ++ [x]) ++ y :: p1 by simp, List.getLast?_append]
     exact ht
   obtain ⟨t0, e0, e1⟩ := ht0
   obtain ⟨c, h1, h2⟩ := ih _ hrot t0 e0
   rw [e1, show q1 ++ x :: p1 = (q1 ++ [x]) ++ p1 by simp, Cz, Option.bind_eq_some_iff] at h1
   obtain ⟨⟨w1, c1⟩, g1, g2⟩ := h1
   obtain ⟨i1, i2, i3⟩ := Hw g1 (Nm _)
   obtain ⟨j1, j2, j3⟩ := Hw g2 i1
   have i3' := i3 x (by simp)
   simp only at i3'
   cases w1 with
   | nil => simp at i3'
   | cons w0 w' =>
    simp at i3'
    subst i3'
    have hn : v ∉ c1 := fun hm => hv ((h2 v).1 (j2 v hm))
    obtain ⟨d2, k1, k2⟩ := Gk (Z := (· = v)) (c2 := v :: c1) (low := []) g2 (by simp) (fun y => by simp [or_comm]) (fun u w hm => hnz u w (by simp [hl, hm])) (by simp)
    refine ⟨d2, ?_, fin k2 h2⟩
    rw [show q1 ++ x :: Tok.arc x.st v :: .ver v :: .arc v x.st :: p1 = (q1 ++ [x]) ++ Tok.arc x.st v :: .ver v :: .arc v x.st :: p1 by simp, Cz, g1, Option.bind_some, triple i1 hn]
    simpa using k1
  intro r hr t ht
  obtain ⟨p, q, hpq, rfl⟩ := hr
  have base : ∀ t0 : Tok, (l ++ [x]).getLast? = some t0 → t0 = x := fun t0 h => by rw [List.getLast?_concat] at h; exact (Option.some.inj h).symm
  obtain ⟨c, h1, h2⟩ := ih (l ++ [x]) ⟨[x], l, rfl, rfl⟩ x (by simp)
  match p with
  | [] =>
   simp only [List.nil_append] at hpq
   subst hpq
   have := G [] l (by simp) t (by simpa using ht)
   simpa using this
  | [y] =>
   simp only [List.cons_append, List.nil_append, List.cons.injEq] at hpq
   obtain ⟨rfl, rfl⟩ := hpq
   have : t = x := by
    rw [List.getLast?_concat] at ht
    exact (Option.some.inj ht).symm
   subst this
   have hn : v ∉ [t.st] := by simp; exact Ne.symm hne
   obtain ⟨d2, k1, k2⟩ := Gk (Z := (· = v)) (c2 := [v, t.st]) (low := []) h1 (by simp) (fun y => by simp [or_comm]) (fun u w hm => hnz u w (by simpa [or_comm] using hm)) (by simp)
   refine ⟨d2, ?_, fin k2 h2⟩
   rw [show (Tok.arc t.st v :: .ver v :: .arc v t.st :: l) ++ [t] = Tok.arc t.st v :: .ver v :: .arc v t.st :: (l ++ [t]) by simp, triple (Nm _) hn]
   simpa using k1
  | [y, z] =>
   simp only [List.cons_append, List.nil_append, List.cons.injEq] at hpq
   obtain ⟨rfl, rfl, rfl⟩ := hpq
   have : t = .arc x.st v := by
    rw [show (Tok.ver v :: .arc v x.st :: l) ++ [x, .arc x.st v] = (Tok.ver v :: .arc v x.st :: l ++ [x]) ++ [.arc x.st v] by simp, List.getLast?_concat] at ht
    exact (Option.some.inj ht).symm
   subst this
   obtain ⟨d2, k1, k2⟩ := Gk (Z := (· = v)) (c2 := [x.st, v]) (low := [v]) h1 (by simp) (fun y => by simp) (fun u w hm => hnz u w (by simpa [or_comm] using hm)) (by simp)
   refine ⟨d2, ?_, fin k2 h2⟩
   rw [show (Tok.ver v :: .arc v x.st :: l) ++ [x, .arc x.st v] = Tok.ver v :: .arc v x.st :: ((l ++ [x]) ++ [.arc x.st v]) by simp]
   rw [Ao]
   show (step ([v], [v]) _).bind _ = _
   rw [Cw, Option.bind_some, Ao, Em _ _ _ _ (by simp) (by simp; exact hne), Option.bind_some, Cz]
   rw [show ([x.st] ++ [v] : List Int) = [x.st, v] from rfl] at k1
   rw [k1, Option.bind_some, Ao, Fh]
   rfl
  | [y, z, w] =>
   simp only [List.cons_append, List.nil_append, List.cons.injEq] at hpq
   obtain ⟨rfl, rfl, rfl, rfl⟩ := hpq
   have : t = .ver v := by
    rw [show (Tok.arc v x.st :: l) ++ [x, .arc x.st v, .ver v] = (Tok.arc v x.st :: l ++ [x, .arc x.st v]) ++ [.ver v] by simp, List.getLast?_concat] at ht
    exact (Option.some.inj ht).symm
   subst this
   obtain ⟨d2, k1, k2⟩ := Gk (Z := (· = v)) (c2 := [x.st, v]) (low := [v]) h1 (by simp) (fun y => by simp) (fun u w hm => hnz u w (by simpa [or_comm] using hm)) (by simp)
   refine ⟨d2, ?_, fin k2 h2⟩
   rw [show (Tok.arc v x.st :: l) ++ [x, .arc x.st v, .ver v] = Tok.arc v x.st :: ((l ++ [x]) ++ [.arc x.st v, .ver v]) by simp]
   rw [Ao]
   show (step ([v], [v]) _).bind _ = _
   rw [Em _ _ _ _ (by simp) (by simp; exact hne), Option.bind_some, Cz]
   rw [show ([x.st] ++ [v] : List Int) = [x.st, v] from rfl] at k1
   rw [k1, Option.bind_some, Ao, Fh, Option.bind_some, Ao, Cw]
   rfl
  | y :: z :: w :: w2 :: p1 =>
   simp only [List.cons_append, List.cons.injEq] at hpq
   obtain ⟨rfl, rfl, rfl, rfl, rfl⟩ := hpq
   exact G q p1 rfl t ht
def comp (P : List Tok) : List Int → List Tok
 | [] => []
 | w :: r => (if .ver w ∈ P then [] else [.ver w]) ++ match r with
  | [] => []
  | p :: _ => .arc w p :: comp P r
theorem Pq {P P' : List Tok} : ∀ {way : List Int}, (∀ w ∈ way, (Tok.ver w ∈ P ↔ Tok.ver w ∈ P')) → comp P way = comp P' way := by
 intro way
 induction way with
 | nil => intro _; rfl
 | cons w r ih =>
  intro h
  have h1 := h w (by simp)
  have h2 := ih fun x hx => h x (List.mem_cons_of_mem _ hx)
  simp only [comp, h1, h2]
theorem Ab5 : ∀ (M P : List Tok) (way c c' : List Int) (r : Int) (t0 : Tok), run (way, c) M = some ([r], c') → Inv (way, c) → P.getLast? = some t0 → way.head? = some t0.st →
  T (P ++ comp P way) → (∀ x, .ver x ∈ P ++ comp P way → x ∈ c) → (∀ x ∈ c', Tok.ver x ∈ P ++ M) → (P ++ M).Nodup → T (P ++ M) := by
 intro M
 induction M with
 | nil =>
  intro P way c c' r t0 h hi hl hh hT hc hc' hn
  cases h
  have := hc' r (hi.2 r (by simp))
  rw [List.append_nil] at this
  simpa [comp, this] using hT
 | cons t M ih =>
  intro P way c c' r t0 h hi hl hh hT hc hc' hn
  rw [Ao, Option.bind_eq_some_iff] at h
  obtain ⟨⟨w1, c1⟩, h1, h2⟩ := h
  obtain ⟨hi1, hsub, hhd⟩ := Yu h1 hi
  have asso : P ++ t :: M = (P ++ [t]) ++ M := by simp
  rw [asso] at hn hc' ⊢
  have hnt : t ∉ P := by
   have := (List.nodup_append.1 (List.nodup_append.1 hn).1)
   intro hm
   exact this.2.2 t hm t (by simp) rfl
  rcases Bf h1 with ⟨v, rr, rfl, hw, e⟩ | ⟨u, v, rr, rfl, hw, e⟩ | ⟨u, v, rr, rfl, hw, hh2, hn2, e⟩
  ·cases e
   simp only at hw
   subst hw
   have key : comp P (v :: rr) = .ver v :: comp (P ++ [.ver v]) (v :: rr) := by
    have e2 : comp P rr = comp (P ++ [.ver v]) rr := Pq fun w hwm => by
     have : w ≠ v := by rintro rfl; exact (List.nodup_cons.1 hi.1).1 hwm
     simp [this]
    simp only [comp, hnt, e2]
    simp
   rw [key] at hT hc
   exact ih _ _ _ _ _ (.ver v) h2 hi1 (by simp) hhd (by simpa using hT) (fun x hx => hc x (by simpa using hx)) hc' hn
  ·cases e
   simp only at hw
   subst hw
   have hu : Tok.ver u ∈ P := by
    have hun := (List.nodup_cons.1 hi.1).1
    obtain ⟨g1, _⟩ := Z2 (z := u) (c := c.filter (· ≠ u)) h2 hun (fun x => by
     simp only [List.mem_filter, decide_eq_true_eq]
     constructor
     ·intro h
      by_cases e : x = u
      ·exact .inr e
      ·exact .inl ⟨h, by simpa using e⟩
     ·rintro (h | rfl)
      ·exact h.1
      ·exact hi.2 x (by simp)) (by simp)
    have hmono := (Hw h2 hi1).2.1 u (hi.2 u (by simp))
    have := hc' u hmono
    simp only [List.mem_append, List.mem_singleton, reduceCtorEq, or_false] at this
    rcases this with h | h
    ·exact h
    ·exact absurd h g1
   have key : comp P (u :: v :: rr) = .arc u v :: comp (P ++ [.arc u v]) (v :: rr) := by
    have e2 : comp P (v :: rr) = comp (P ++ [.arc u v]) (v :: rr) := Pq fun w hwm => by simp
    rw [← e2]
    simp only [comp, hu]
    simp
   rw [key] at hT hc
   exact ih _ _ _ _ _ (.arc u v) h2 hi1 (by simp) hhd (by simpa using hT) (fun x hx => hc x (by simpa using hx)) hc' hn
  ·cases e
   simp only at hw hn2
   subst hw
   have hu : u = t0.st := by simpa using hh
   subst hu
   have hvc : ∀ x, Tok.ver x ∈ P ++ comp P (t0.st :: rr) → x ≠ v := by rintro x hx rfl; exact hn2 (hc x hx)
   have hvP : Tok.ver v ∉ P ++ comp P (t0.st :: rr) := fun hm => hvc v hm rfl
   have hvP' : Tok.ver v ∉ P := fun hm => hvP (by simp [hm])
   have key : comp (P ++ [.arc t0.st v]) (v :: t0.st :: rr) = .ver v :: .arc v t0.st :: comp P (t0.st :: rr) := by
    have e2 : comp (P ++ [.arc t0.st v]) (t0.st :: rr) = comp P (t0.st :: rr) := Pq fun w hwm => by simp
    rw [← e2]
    simp only [comp, List.mem_append, hvP', List.mem_singleton, reduceCtorEq, or_false, if_false]
    rfl
   have hne : t0.st ≠ v := by rintro e; exact hn2 (e ▸ hi.2 t0.st (by simp))
   refine ih _ _ _ _ _ (.arc t0.st v) h2 hi1 (by simp) hhd ?_ ?_ hc' hn
   ·rw [key]
    obtain ⟨P0, rfl⟩ : ∃ P0, P = P0 ++ [t0] := List.getLast?_eq_some_iff.1 hl
    have hT1 : T (t0 :: (comp (P0 ++ [t0]) (t0.st :: rr) ++ P0)) := hT.ARz ⟨P0, t0 :: comp (P0 ++ [t0]) (t0.st :: rr), by simp, by simp⟩
    have hT2 := T.add t0 _ v hT1 hne (by
     intro hm
     apply hvP
     simp only [List.mem_append, List.mem_cons, List.not_mem_nil, or_false] at hm ⊢
     rcases hm with h | h | h <;> simp [h])
    exact hT2.ARz ⟨t0 :: .arc t0.st v :: .ver v :: .arc v t0.st :: comp (P0 ++ [t0]) (t0.st :: rr), P0, by simp, by simp⟩
   ·intro x hx
    rw [key] at hx
    simp only [List.mem_append, List.mem_cons, List.not_mem_nil, or_false, reduceCtorEq, Tok.ver.injEq, false_or] at hx
    rcases hx with h | h | h
    ·exact List.mem_cons_of_mem _ (hc x (by simp [h]))
    ·simp [h]
    ·exact List.mem_cons_of_mem _ (hc x (by simp [h]))
def A3 (l : List Tok) : Prop := ∃ r l' c, l = .ver r :: l' ∧ run ([r], [r]) l = some ([r], c) ∧ ∀ x ∈ c, Tok.ver x ∈ l
theorem A3.toT {l : List Tok} (h : A3 l) (hn : l.Nodup) : T l := by
 obtain ⟨r, l', c, rfl, h1, h2⟩ := h
 rw [Ao, Cw, Option.bind_some] at h1
 have := Ab5 l' [.ver r] [r] [r] c r (.ver r) h1 (Nm r) (by simp) (by simp [st]) (by simp [comp]; exact T.one r) (by simp [comp]) (by simpa using h2) (by simpa using hn)
 simpa using this
theorem T.AHE {r : Int} {l : List Tok} (h : T (.ver r :: l)) : A3 (.ver r :: l) := by
 obtain ⟨t, ht⟩ : ∃ t, (Tok.ver r :: l).getLast? = some t := ⟨_, List.getLast?_eq_some_getLast (by simp)⟩
 obtain ⟨c, h1, h2⟩ := h.toC _ (Rot.refl _) t ht
 have h1' := h1
 rw [Ao, Option.bind_eq_some_iff] at h1'
 obtain ⟨s, g1, _⟩ := h1'
 have e : t.st = r := by
  simp only [step] at g1
  split at g1
  ·assumption
  ·cases g1
 rw [e] at h1
 exact ⟨r, l, c, rfl, h1, fun x hx => (h2 x).1 hx⟩
end Go.Pev.Pl.Tok
end
section
namespace Go.Pev.Pl.Tok
theorem T.AOx {l : List Tok} (h : T l) : ∃ v r, Rot l (.ver v :: r) := by
 obtain ⟨f1, f2, _⟩ := h.facts
 obtain ⟨t, ht⟩ := List.exists_mem_of_ne_nil l f1
 obtain ⟨a, b, rfl⟩ := List.append_of_mem (f2 t ht)
 exact ⟨t.st, b ++ a, a, .ver t.st :: b, rfl, rfl⟩
theorem T.less {x : Tok} {v : Int} {l : List Tok} (h : T (x :: .arc x.st v :: .ver v :: .arc v x.st :: l)) : T (x :: l) := by
 have hC := h.toC
 have hn := h.nodup
 obtain ⟨_, f2, f3⟩ := h.facts
 have hne : x.st ≠ v := (f3 x.st v (by simp)).2.2.2
 have hvl : Tok.ver v ∉ l := by
  intro hm
  simp only [List.nodup_cons, List.mem_cons, not_or] at hn
  exact hn.2.2.1.2 hm
 have hvx : x ≠ .ver v := by rintro rfl; exact hne rfl
 have key : ∀ p q, l = p ++ q → ∀ t0, (q ++ x :: p).getLast? = some t0 → ∃ c, run ([t0.st], [t0.st]) (q ++ x :: p) = some ([t0.st], c) ∧ ∀ y, y ∈ c ↔ .ver y ∈ x :: l := by
  intro p q hl t0 ht0
  have hrot : Rot (x :: .arc x.st v :: .ver v :: .arc v x.st :: l) (q ++ x :: .arc x.st v :: .ver v :: .arc v x.st :: p) := ⟨x :: .arc x.st v :: .ver v :: .arc v x.st :: p, q, by simp [hl], rfl⟩
  have ht : ∃ t, (q ++ x :: Tok.arc x.st v :: .ver v :: .arc v x.st :: p).getLast? = some t ∧ t.st = t0.st := by
   cases p with
   | nil =>
    rw [List.getLast?_concat] at ht0
    cases ht0
    exact ⟨.arc v x.st, by rw [show q ++ [x, Tok.arc x.st v, .ver v, .arc v x.st] = (q ++ [x, Tok.arc x.st v, .ver v]) ++ [Tok.arc v x.st] by simp, List.getLast?_concat], rfl⟩
   | cons y p =>
    refine ⟨t0, ?_, rfl⟩
    rw [show q ++ x :: Tok.arc x.st v :: .ver v :: .arc v x.st :: y :: p = (q ++ [x, Tok.arc x.st v, .ver v, .arc v x.st]) ++ y :: p by simp, List.getLast?_append]
    rw [show q ++ x :: y :: p = (q ++ [x]) ++ y :: p by simp, List.getLast?_append] at ht0
    exact ht0
  obtain ⟨t, e0, e1⟩ := ht
  obtain ⟨c, h1, h2⟩ := hC _ hrot t e0
  rw [e1, show q ++ x :: Tok.arc x.st v :: .ver v :: .arc v x.st :: p = (q ++ [x]) ++ Tok.arc x.st v :: .ver v :: .arc v x.st :: p by simp, Cz, Option.bind_eq_some_iff] at h1
  obtain ⟨⟨w1, c1⟩, g1, g2⟩ := h1
  obtain ⟨i1, i2, i3⟩ := Hw g1 (Nm _)
  have i3' := i3 x (by simp)
  simp only at i3'
  cases w1 with
  | nil => simp at i3'
  | cons w0 w' =>
   simp at i3'
   subst i3'
   rw [Ao, Option.bind_eq_some_iff] at g2
   obtain ⟨s1, k1, k2⟩ := g2
   rcases Bf k1 with ⟨v', r, e, _⟩ | ⟨u', v', r, e, hw, rfl⟩ | ⟨u', v', r, e, hw, hh, hnc, rfl⟩
   ·cases e
   ·cases e
    simp only [List.cons.injEq] at hw
    obtain ⟨_, rfl⟩ := hw
    exfalso
    rw [Ao, Cw, Option.bind_some, Ao, Option.bind_eq_some_iff] at k2
    obtain ⟨s2, m1, _⟩ := k2
    have hnd := i1.1
    rcases Bf m1 with ⟨v', r', e, _⟩ | ⟨u', v', r', e, hw, rfl⟩ | ⟨u', v', r', e, hw, hh, hnc, rfl⟩
    ·cases e
    ·cases e
     simp only [List.cons.injEq] at hw
     obtain ⟨_, rfl⟩ := hw
     simp at hnd
    ·cases e
     exact hnc (i1.2 _ (by simp))
   ·cases e
    simp only [List.cons.injEq, true_and] at hw
    subst hw
    simp only at hnc
    rw [Ao, Cw, Option.bind_some, Ao, Fh, Option.bind_some] at k2
    have hvw : v ∉ x.st :: w' := fun hm => hnc (i1.2 v hm)
    obtain ⟨_, d, m1, m2, m3⟩ := Z2 (z := v) (c := c1) k2 hvw (fun y => by simp [or_comm]) hnc
    refine ⟨d, ?_, fun y => ?_⟩
    ·rw [show q ++ x :: p = (q ++ [x]) ++ p by simp, Cz, g1, Option.bind_some, m1]
    ·have q1 := m2 y
     have q2 := h2 y
     by_cases e : y = v
     ·subst e
      refine ⟨fun h => absurd h m3, fun h => ?_⟩
      rcases List.mem_cons.1 h with h | h
      ·exact absurd h.symm hvx
      ·exact absurd h hvl
     ·rw [q2] at q1
      simp only [e, or_false] at q1
      rw [← q1]
      simp [e]
 obtain ⟨s, b, a, hsb⟩ : ∃ s a b, x :: l = a ++ .ver s :: b := by
  have := f2 x (by simp)
  simp only [List.mem_cons, reduceCtorEq, false_or, Tok.ver.injEq, hne] at this
  rcases this with h | h
  ·exact ⟨x.st, [], l, by rw [← h]; rfl⟩
  ·obtain ⟨a, b, rfl⟩ := List.append_of_mem h
   exact ⟨x.st, x :: a, b, rfl⟩
 have hg : A3 (.ver s :: a ++ b) := by
  have hr : ∃ p q, l = p ++ q ∧ q ++ x :: p = .ver s :: a ++ b := by
   cases b with
   | nil =>
    simp only [List.nil_append, List.cons.injEq] at hsb
    obtain ⟨rfl, rfl⟩ := hsb
    exact ⟨l, [], by simp, by simp⟩
   | cons y b =>
    simp only [List.cons_append, List.cons.injEq] at hsb
    obtain ⟨rfl, rfl⟩ := hsb
    exact ⟨b, .ver s :: a, rfl, by simp⟩
  obtain ⟨p, q, hl, e⟩ := hr
  obtain ⟨t0, ht0⟩ : ∃ t0, (q ++ x :: p).getLast? = some t0 := ⟨_, List.getLast?_eq_some_getLast (by simp)⟩
  obtain ⟨c, h1, h2⟩ := key p q hl t0 ht0
  rw [e] at h1
  have h1' := h1
  rw [List.cons_append, Ao, Option.bind_eq_some_iff] at h1'
  obtain ⟨s', g1, _⟩ := h1'
  have e' : t0.st = s := by
   simp only [step] at g1
   split at g1
   ·assumption
   ·cases g1
  rw [e'] at h1
  refine ⟨s, a ++ b, c, rfl, h1, fun y hy => ?_⟩
  have := (h2 y).1 hy
  rw [hsb] at this
  simp only [List.mem_append, List.mem_cons] at this ⊢
  rcases this with h | h | h <;> simp [h]
 have hrot2 : Rot (.ver s :: a ++ b) (x :: l) := ⟨.ver s :: a, b, rfl, hsb⟩
 have hnx : (x :: l).Nodup := by
  simp only [List.nodup_cons, List.mem_cons, not_or] at hn ⊢
  exact ⟨hn.1.2.2.2, hn.2.2.2.2⟩
 exact (hg.toT (hrot2.nodup.2 hnx)).ARz hrot2
theorem T.leaf {l : List Tok} (h : T l) : (∃ v, l = [.ver v]) ∨ ∃ x v r, Rot l (x :: .arc x.st v :: .ver v :: .arc v x.st :: r) := by
 induction h with
 | one v => exact .inl ⟨v, rfl⟩
 | add x l v h hne hv ih => exact .inr ⟨x, v, l, Rot.refl _⟩
 | rot a b h ih =>
  rcases ih with ⟨v, e⟩ | ⟨x, v, r, hr⟩
  ·have hr : Rot [.ver v] (b ++ a) := ⟨a, b, e.symm, rfl⟩
   exact .inl ⟨v, List.perm_singleton.1 hr.perm.symm⟩
  ·exact .inr ⟨x, v, r, Rot.trans ⟨b, a, rfl, rfl⟩ hr⟩
def Iz : List Tok → List Int
 | [] => []
 | .ver v :: l => v :: Iz l
 | .arc _ _ :: l => Iz l
theorem Q2 {v : Int} : ∀ {l : List Tok}, v ∈ Iz l ↔ .ver v ∈ l
 | [] => by simp [Iz]
 | .ver w :: l => by simp [Iz, Q2 (l := l)]
 | .arc _ _ :: l => by simp [Iz, Q2 (l := l)]
theorem ALF (a b : List Tok) : Iz (a ++ b) = Iz a ++ Iz b := by
 induction a with
 | nil => rfl
 | cons t a ih => cases t <;> simp [Iz, ih]
theorem T.len {l : List Tok} (h : T l) : l.length + 2 = 3 * (Iz l).length := by
 induction h with
 | one v => rfl
 | add x l v h hne hv ih =>
  cases x <;> simp [Iz] at ih ⊢ <;> omega
 | rot a b h ih =>
  simp only [ALF, List.length_append] at ih ⊢
  omega
end Go.Pev.Pl.Tok
end
section
namespace Go.Pev.Pl
section
variable {β : Type}
def A6 (es : List (Int × β)) : List Int := es.map Prod.fst
theorem UK (es : List (Int × β)) : (A6 es).length = es.length := by simp [A6]
theorem GW (es : List (Int × β)) (k : Int) (v : β) (j : Int) : Af (Ak es k v) j = if j = k then some v else Af es j := by
 induction es with
 | nil =>
  simp only [Ak, Af]
  by_cases h : k = j
  ·simp [h]
  ·simp [h, Ne.symm h]
 | cons e es ih =>
  obtain ⟨a, b⟩ := e
  simp only [Ak]
  by_cases h : a = k
  ·subst h
   simp only [if_true, Af]
   by_cases h2 : a = j
   ·simp [h2]
   ·simp [h2, Ne.symm h2]
  ·simp only [h, if_false, Af, ih]
   by_cases h2 : a = j
   ·subst h2; simp [h]
   ·simp [h2]
theorem PL (es : List (Int × β)) (k : Int) (v : β) : A6 (Ak es k v) = if k ∈ A6 es then A6 es else A6 es ++ [k] := by
 induction es with
 | nil => rfl
 | cons e es ih =>
  obtain ⟨a, b⟩ := e
  simp only [Ak]
  by_cases h : a = k
  ·subst h; simp [A6]
  ·simp only [h, if_false]
   show a :: A6 (Ak es k v) = _
   rw [ih]
   have : k ∈ A6 ((a, b) :: es) ↔ k ∈ A6 es := by simp [A6, Ne.symm h]
   simp only [this]
   split <;> rfl
theorem WY (es : List (Int × β)) (k : Int) : Af es k = none ↔ k ∉ A6 es := by
 induction es with
 | nil => simp [Af, A6]
 | cons e es ih =>
  obtain ⟨a, b⟩ := e
  simp only [Af]
  by_cases h : a = k
  ·simp [h, A6]
  ·simp only [h, if_false, ih]
   simp [A6, Ne.symm h]
theorem EU (es : List (Int × β)) (k : Int) (v : β) (j : Int) : j ∈ A6 (Ak es k v) ↔ j = k ∨ j ∈ A6 es := by
 rw [PL]
 split
 ·rename_i h
  constructor
  ·exact .inr
  ·rintro (rfl | h2)
   ·exact h
   ·exact h2
 ·simp [or_comm]
theorem I9 {es : List (Int × β)} (h : (A6 es).Nodup) (k : Int) (v : β) : (A6 (Ak es k v)).Nodup := by
 rw [PL]
 split
 ·exact h
 ·rename_i hk
  rw [List.nodup_append]
  exact ⟨h, by simp, fun a ha b hb => by rintro rfl; simp at hb; exact hk (hb ▸ ha)⟩
end
def dd : List Int → List Int → List Int
 | ks, [] => ks
 | ks, x :: xs => dd (if x ∈ ks then ks else ks ++ [x]) xs
theorem AfS : ∀ (xs ks : List Int), (dd ks xs).length ≤ ks.length + xs.length ∧ ((dd ks xs).length = ks.length + xs.length ↔ xs.Nodup ∧ ∀ x ∈ xs, x ∉ ks) := by
 intro xs
 induction xs with
 | nil => intro ks; simp [dd]
 | cons x xs ih =>
  intro ks
  rw [dd]
  by_cases h : x ∈ ks
  ·obtain ⟨h1, _⟩ := ih ks
   rw [if_pos h]
   refine ⟨by simp only [List.length_cons]; omega, ?_, fun hh => absurd h (hh.2 x (by simp))⟩
   intro e
   simp only [List.length_cons] at e
   omega
  ·obtain ⟨h1, h2⟩ := ih (ks ++ [x])
   rw [if_neg h]
   simp only [List.length_append, List.length_cons, List.length_nil, Nat.zero_add] at h1 h2 ⊢
   refine ⟨by omega, ?_⟩
   rw [show ks.length + (xs.length + 1) = ks.length + 1 + xs.length by omega, h2, List.nodup_cons]
   constructor
   ·rintro ⟨g1, g2⟩
    refine ⟨⟨fun hx => g2 x hx (by simp), g1⟩, fun y hy => ?_⟩
    rcases List.mem_cons.1 hy with rfl | hy
    ·exact h
    ·exact fun hk => g2 y hy (by simp [hk])
   ·rintro ⟨⟨g1, g2⟩, g3⟩
    refine ⟨g2, fun y hy hk => ?_⟩
    simp only [List.mem_append, List.mem_singleton] at hk
    rcases hk with hk | rfl
    ·exact g3 y (by simp [hy]) hk
    ·exact g1 hy
theorem AcU (xs : List Int) : (dd [] xs).length = xs.length ↔ xs.Nodup := by
 have := (AfS xs []).2
 simpa using this
theorem Az {α β ρ : Type} (g : β → α → α) (fin : α → ρ) : ∀ (xs : List β) (a : α), walk (fun x a => .inl (g x a)) fin xs a = fin (xs.foldl (fun a x => g x a) a) := by
 intro xs
 induction xs with
 | nil => intro a; rfl
 | cons x xs ih => intro a; rw [walk, List.foldl_cons]; exact ih _
theorem Fz {σ ρ β : Type} {step : σ → Option (σ ⊕ ρ)} (st : Nat → σ) (xs : List β) (P : β → Bool) (rt : Nat → ρ) (rf : ρ) (hs : xs.length < 9223372036854775808)
  (h : ∀ i x, i < xs.length → xs[i]? = some x → step (st i) = if P x then some (.inr (rt i)) else some (.inl (st (i + 1)))) (hN : step (st xs.length) = some (.inr rf)) :
  AR step many (st 0) = some (if xs.any P then rt (xs.findIdx P) else rf) := by
 have key : ∀ (l : List β) (a : Nat), walk (fun x (a : Nat) => if P x then .inr (rt a) else .inl (a + 1)) (fun _ => rf) l a = if l.any P then rt (a + l.findIdx P) else rf := by
  intro l
  induction l with
  | nil => intro a; rfl
  | cons x l ih =>
   intro a
   rw [walk, List.any_cons, List.findIdx_cons]
   by_cases hx : P x = true
   ·simp [hx]
   ·simp only [hx, Bool.false_eq_true, if_false, Bool.false_or, cond_false]
    rw [ih, show a + 1 + List.findIdx P l = a + (List.findIdx P l + 1) by omega]
 have := Bu (step := step) (fun i (a : Nat) => st a) xs (fun x (a : Nat) => if P x then .inr (rt a) else .inl (a + 1)) (fun _ => rf) (fun i a => a = i) hs
  (fun i x a hi hx ha => by
   subst ha
   refine ⟨fun a' h' => ?_, fun r h' => ?_⟩
   ·rw [h a x hi hx]
    split at h'
    ·cases h'
    ·rename_i hp
     cases h'
     simp [hp]
   ·rw [h a x hi hx]
    split at h'
    ·rename_i hp
     cases h'
     simp [hp]
    ·cases h')
  (fun a ha => by subst ha; exact hN) 0 rfl
 rw [this, key, Nat.zero_add]
theorem AY {α : Type} {xs : List α} {n : Nat} {x : α} (h : xs[n]? = some x) : idx xs (n : Int) = some x := by rw [AJV, h]
theorem BR {α : Type} {xs : List α} {n : Nat} {x z : α} (h : xs[n]? = some x) : AW xs (AM (n : Int)) z = x := by
 rw [FJ, List.getD_eq_getElem?_getD, h]; rfl
theorem Sr {α : Type} {xs : List α} {h : Nat} (h2 : h ≤ xs.length) : DY xs (0 : Int) (h : Int) = some (xs.take h) := by
 have := AHS (xs := xs) (l := 0) (Nat.zero_le h) h2
 simpa using this
theorem G9 {α : Type} {xs : List α} {l : Nat} (h1 : l ≤ xs.length) : DY xs (l : Int) (AO xs) = some (xs.drop l) := by
 have := AHS (xs := xs) h1 (Nat.le_refl _)
 rw [List.take_length] at this
 exact this
def pos (xs : List Int) (t : Int) : Int := if t ∈ xs then ((xs.findIdx (fun x => decide (x = t)) : Nat) : Int) else -1
theorem AVj (xs : List Int) (t : Int) : (xs.any fun x => decide (x = t)) = decide (t ∈ xs) := by
 induction xs with
 | nil => rfl
 | cons x xs ih => simp only [List.any_cons, ih, List.mem_cons, Bool.decide_or]; congr 1; exact decide_eq_decide.2 eq_comm
theorem AIc {xs : List Int} {t : Int} (h : t ∈ xs) : ∃ k : Nat, pos xs t = (k : Int) ∧ k < xs.length ∧ xs[k]? = some t ∧ xs = xs.take k ++ t :: xs.drop (k + 1) ∧ t ∉ xs.take k := by
 have hk : xs.findIdx (fun x => decide (x = t)) < xs.length := List.findIdx_lt_length.2 ⟨t, h, by simp⟩
 have hg : xs[xs.findIdx (fun x => decide (x = t))]'hk = t := by
  have := List.findIdx_getElem (xs := xs) (p := fun x => decide (x = t)) (w := hk)
  simpa using this
 refine ⟨_, by rw [pos, if_pos h], hk, by rw [List.getElem?_eq_getElem hk, hg], ?_, ?_⟩
 ·conv => lhs; rw [← List.take_append_drop (xs.findIdx (fun x => decide (x = t))) xs, List.drop_eq_getElem_cons hk, hg]
 ·intro hm
  obtain ⟨j, hj, e⟩ := List.mem_take_iff_getElem.1 hm
  have := List.not_of_lt_findIdx (p := fun x => decide (x = t)) (xs := xs) (i := j) (by omega)
  simp [e] at this
theorem Qn {xs : List Int} {t : Int} (h : t ∉ xs) : pos xs t = -1 := by rw [pos, if_neg h]
end Go.Pev.Pl
end
